import Derived.Laws.MakeOwn
import Derived.Test.YteefcelbbenmdaaGreatDoorChecked
import Derived.KernelRfl
import Derived.Test.YteefcelbbenmdaaGreatDoorA01
set_option linter.all false
namespace Go.Ar
open Go.RowKit
section
variable {P : Program} {ops : Array Oper} {n : Nn} {c k : Nat} {rest : List Oper} {T : TL} {H : HL} {fs : List Foot} {K : List Foot → St → Prop}
variable {d ty : Nat} {pos : String} {aft : Array Edge} {gd : Option (Nat × Bool)} {gts ts ts0 ts1 ts2 ts3 : List Nat} {x x1 x2 x3 : Operand} {y y1 y2 : AV}
theorem dv {t t' : TypeId} {k1 : IntKind} {p q : Int} (hg : gdOp ops T gd = some gts) (h1 : evOp T x1 = some (.v (.int k1 p), ts1)) (h2 : evOp T x2 = some (.v (.int k1 q), ts2)) (hd : Nat.blt d n.n = true) (hq : q ≠ 0)
    (next:RG P ops n c (k+1) rest (mk ((d,.v (.int k1 (k1.wrap (p.tdiv q))))::T) H) (⟨gts++(ts1++ts2),[],[]⟩::fs) K):RG P ops n c k (⟨some d,.binOp .quo t x1 x2 t',ty,pos,aft,gd⟩::rest) (mk T H) fs K:=rg_bin2 (gd_of hg) (ev_of h1) (ev_of h2) (by simp [binVal2,hq]) (lt_ok hd) next
theorem rm {t t' : TypeId} {k1 : IntKind} {p q : Int} (hg : gdOp ops T gd = some gts) (h1 : evOp T x1 = some (.v (.int k1 p), ts1)) (h2 : evOp T x2 = some (.v (.int k1 q), ts2)) (hd : Nat.blt d n.n = true) (hq : q ≠ 0)
    (next:RG P ops n c (k+1) rest (mk ((d,.v (.int k1 (p.tmod q)))::T) H) (⟨gts++(ts1++ts2),[],[]⟩::fs) K):RG P ops n c k (⟨some d,.binOp .rem t x1 x2 t',ty,pos,aft,gd⟩::rest) (mk T H) fs K:=rg_bin2 (gd_of hg) (ev_of h1) (ev_of h2) (by simp [binVal2,hq]) (lt_ok hd) next
theorem shl {t t' : TypeId} {k1 k2 : IntKind} {p q : Int} (hg : gdOp ops T gd = some gts) (h1 : evOp T x1 = some (.v (.int k1 p), ts1)) (h2 : evOp T x2 = some (.v (.int k2 q), ts2)) (hd : Nat.blt d n.n = true) (hq : 0 ≤ q)
    (next:RG P ops n c (k+1) rest (mk ((d,.v (.int k1 (k1.wrap (p * 2 ^ (min q.toNat k1.bits)))))::T) H) (⟨gts++(ts1++ts2),[],[]⟩::fs) K):RG P ops n c k (⟨some d,.binOp .shl t x1 x2 t',ty,pos,aft,gd⟩::rest) (mk T H) fs K:=rg_bin2 (gd_of hg) (ev_of h1) (ev_of h2) (by simp [binVal2,hq]) (lt_ok hd) next
theorem shr {t t' : TypeId} {k1 k2 : IntKind} {p q : Int} (hg : gdOp ops T gd = some gts) (h1 : evOp T x1 = some (.v (.int k1 p), ts1)) (h2 : evOp T x2 = some (.v (.int k2 q), ts2)) (hd : Nat.blt d n.n = true) (hq : 0 ≤ q)
    (next:RG P ops n c (k+1) rest (mk ((d,.v (.int k1 (p.fdiv (2 ^ (min q.toNat k1.bits)))))::T) H) (⟨gts++(ts1++ts2),[],[]⟩::fs) K):RG P ops n c k (⟨some d,.binOp .shr t x1 x2 t',ty,pos,aft,gd⟩::rest) (mk T H) fs K:=rg_bin2 (gd_of hg) (ev_of h1) (ev_of h2) (by simp [binVal2,hq]) (lt_ok hd) next
theorem fldw {t : TypeId} {m : Nat} {e : AV} (ht : tk P t = some (true, m)) (hg : gdOp ops T gd = some gts) (hx : evOp T x = some (.fptr e 0, ts)) (hy : partOf e true m 0 = some e) (hd : Nat.blt d n.n = true)
    (next:RG P ops n c (k+1) rest (mk ((d,e)::T) H) (⟨gts++ts,[],[]⟩::fs) K):RG P ops n c k (⟨some d,.load t x,ty,pos,aft,gd⟩::rest) (mk T H) fs K:=fld ht hg hx hy hd next
theorem ldw {t : TypeId} {s g i sz m : Nat} {xs : List AV} {e : AV} (ht : tk P t = some (true, m)) (hg : gdOp ops T gd = some gts) (hx : evOp T x = some (.ptr s g i 0, ts)) (hh : H.lookup s = some (some (g, .buf sz xs))) (he : xs[i]? = some e) (hy : partOf e true m 0 = some e) (hd : Nat.blt d n.n = true)
    (next:RG P ops n c (k+1) rest (mk ((d,e)::T) H) (⟨gts++ts,[s],[]⟩::fs) K):RG P ops n c k (⟨some d,.load t x,ty,pos,aft,gd⟩::rest) (mk T H) fs K:=ld ht hg hx hh he hy hd next
end
end Go.Ar
namespace Go.Ar
open Go.RowKit
inductive ResV (P:Program) (T:TL) (H:HL):List ResultVar→List AV→Prop
 | nil:ResV P T H [] []
 | tmp (t x rs xs):T.lookup t=some x→ResV P T H rs xs→ResV P T H (.tmp t::rs) (x::xs)
 | cell (a t s g i sz ys e ag m y rs xs):T.lookup a=some (.ptr s g i 0)→H.lookup s=some (some (g,.buf sz ys))→ys[i]? = some e→tk P t=some (ag,m)→partOf e ag m 0=some y→ResV P T H rs xs→ResV P T H (.cell a t::rs) (y::xs)
section
variable {P : Program} {n : Nn} {base : Nat} {w0 : World} {F : Fr} {G : Nat → Prop} {E : Nat → Nat → Option Loc} {T : TL} {H : HL} {a : Act} {w : World}
def resOf (tmps:Array Value):ResultVar→Sem Value
 | .tmp t=>pure (tmps.getD t undef)
 | .cell a t=>do loadVar t (← asAddr (tmps.getD a undef))
theorem part_run {C : Cx} {x : Value} {t : TypeId} {s g i sz m : Nat} {ag : Bool} {ys : List AV} {e y : AV} {L : Loc} (hw : C.w = w) (hL : C.E s g = some L) (hr : ObR C L (.buf sz ys)) (hx : VT C (.ptr s g i 0) x) (he : ys[i]? = some e) (ht : tk P t = some (ag, m)) (hy : partOf e ag m 0 = some y) :
    ∃ v,(do loadVar t (← asAddr x):Sem Value).run P w = .ok v w∧VT C y v:=by
 obtain ⟨h1,h2⟩:=hx
 cases h2 with
 | ptr _ _ _ _ b p _ h2 =>
  obtain ⟨hb,rfl⟩:=h2 L hL
  obtain ⟨hsz,hr⟩:=hr
  rw [hb] at hr
  obtain ⟨arr,tt,hblk,hroom,hle,hel⟩:=hr
  obtain ⟨cs,hcl,hvr,hcs⟩:=hel i e he
  rw [hw] at hblk
  have hcell:∀ (j:Nat) u,cs[j]? = some u→w.cell? ((⟨b,i * L.sz+0,none⟩:Addr).add j)=some u:=by
   intro j u hu
   rw [add_mk,block_cell hblk,hsz,Nat.add_zero]
   exact hcs _ u hu
  have hrun:∀ v,(loadVar t ⟨b,i * L.sz+0,none⟩).run P w = .ok v w→(do loadVar t (← asAddr (.pointer (some ⟨b,i * L.sz+0,none⟩))):Sem Value).run P w = .ok v w:=by
   intro v hv
   rw [run_bind_ok (v:=⟨b,i * L.sz+0,none⟩) (w':=w) rfl]
   exact hv
  cases ag with
  | false =>
   simp only [partOf,Bool.false_eq_true,if_false] at hy
   obtain ⟨u',hu,ho,hf,hv⟩:=hvr.cell hy
   refine ⟨u',hrun u' (loadVar_one ht ?_),vt_of hf ho hv⟩
   have:=hcell 0 u' (by simpa using hu)
   simpa [Addr.add] using this
  | true =>
   obtain ⟨hv,hl,zs,rfl⟩:=hvr.part hy
   refine ⟨_,hrun _ (loadVar_agg ht hl fun j u' hu=>?_),⟨_,rfl,hv⟩⟩
   rw [List.getElem?_take] at hu
   split at hu
   ·rw [List.getElem?_drop,Nat.zero_add] at hu
    exact hcell j u' hu
   ·cases hu
theorem ResV.run (hs : SimE n base w0 F G E (mk T H) a w) {rs : List ResultVar} {xs : List AV} (h : ResV P T H rs xs) :
    ∃ vs:List Value,(rs.mapM (resOf a.tmps)).run P w = .ok vs w∧xs.length=vs.length∧∀ (i:Nat) x,xs[i]? = some x→∀ v,vs[i]? = some v→VT (cx base F E G w) x v:=by
 induction h with
 | nil=>exact ⟨[],rfl,rfl,by simp⟩
 | tmp t x rs xs hl _ ih =>
  obtain ⟨vs,h1,h2,h3⟩:=ih
  refine ⟨a.tmps.getD t undef::vs,?_,by simp [h2],fun i y hy v hv=>?_⟩
  ·rw [List.mapM_cons,run_bind_ok (v:=a.tmps.getD t undef) (w':=w) rfl,run_bind_ok h1]
   rfl
  ·cases i with
   | zero =>
    simp at hy hv
    subst hy;subst hv
    have:=hs.tmps t
    have e:(mk T H).T t=x:=(look_of hl).eq
    rw [e] at this
    simpa [Act.eval] using this
   | succ i=>exact h3 i y (by simpa using hy) v (by simpa using hv)
 | cell b t s g i sz ys e ag m y rs xs h1 h2 h3 h4 h5 _ ih =>
  obtain ⟨vs,k1,k2,k3⟩:=ih
  have hp:=hs.tmps b
  have e1:(mk T H).T b = .ptr s g i 0:=(look_of h1).eq
  rw [e1] at hp
  obtain ⟨_,L,hL,hr⟩:=hs.live s g _ ((hook_of h2).obj (T:=T))
  obtain ⟨v,r1,r2⟩:=part_run (P:=P) (C:=cx base F E G w) rfl hL hr hp h3 h4 h5
  refine ⟨v::vs,?_,by simp [k2],fun j z hz u hu=>?_⟩
  ·have r1':(resOf a.tmps (.cell b t)).run P w = .ok v w:=r1
   rw [List.mapM_cons,run_bind_ok r1',run_bind_ok k1]
   rfl
  ·cases j with
   | zero=>simp at hz hu;subst hz;subst hu;exact r2
   | succ j=>exact k3 j z (by simpa using hz) u (by simpa using hu)
def oneOr:List Value→Value
 | [v]=>v
 | vs=>.tuple vs.toArray
theorem results_of {fn : Func} {rs : List ResultVar} (h : fn.results = rs.toArray) {tmps : Array Value} {vs : List Value} (hr : (rs.mapM (resOf tmps)).run P w = .ok vs w) :
    (results fn tmps).run P w = .ok (oneOr vs) w:=by
 unfold results
 rw [run_bind_ok (v:=vs.toArray) (w':=w)]
 ·match vs with
  | []=>rfl
  | [v]=>rfl
  | v::v'::vs=>simp [pure,oneOr]
 ·rw [h,List.mapM_toArray]
  have:(List.mapM (resOf tmps) rs >>= fun l=>pure l.toArray:Sem (Array Value)).run P w = .ok vs.toArray w:=by
   rw [run_bind_ok hr];rfl
  exact this
theorem endZ (Z : List (Nat × Nat × Ob)) {fn : Func} {X : Run} {cl : Nat} {rs : List ResultVar} {xs ys : List AV} {e : Exit} (hr : fn.results = rs.toArray) (h1 : rs.length ≠ 1) (he : e = .ret ∨ e = .normal) (hl : ResV P T H rs xs) (hZ : ∀ z ∈ Z, Hook H z.1 z.2.1 z.2.2) (hy : RnL [] Z xs ys) :
    At X cl (mk T H) (Out P fn X [] [] (.tup ys) e):=by
 have key:∀ a w,Sim X.n X.base X.w0 X.F (· < cl) (mk T H) a w→a.defers=[]∧∃ v,(results fn a.tmps).run P w = .ok v w∧∃ E',Held X.n.gl X.base X.w0 X.F E' [] w∧(∀ i∈([]:List Nat),∀ L,E' i 0=some L→X.F.E0 i=some L)∧VT (cx X.base X.F E' (· < 1) w) (.tup ys) v:=by
  rintro a w ⟨E,hs⟩
  have hh:Hand H [] Z []:=⟨rfl,by simp,by simp,fun z hz=>⟨hZ z hz,by simp⟩⟩
  obtain ⟨k1,k2⟩:=hh.held hs
  obtain ⟨vs,r1,r2,r3⟩:=hl.run hs
  refine ⟨hs.defers,_,results_of hr r1,_,k1,by simp,?_⟩
  have hlen:vs.length=rs.length:=by
   have:xs.length=rs.length:=by clear r1 r2 r3 hy hr h1;induction hl <;> simp_all
   omega
  have e1:oneOr vs = .tuple vs.toArray:=by
   unfold oneOr
   split
   ·simp at hlen;omega
   ·rfl
  rw [e1]
  refine (RnT.tup _ _ hy.get.1 hy.get.2).vt k2 ⟨vs,rfl,r2,fun i x hx v hv=>?_⟩
  have:=r3 i x hx v hv
  rwa [flat_vv hy x (List.mem_of_getElem? hx)] at this
 rcases he with rfl | rfl <;> exact fun a w hs=>key a w hs
theorem endZ1 (Z : List (Nat × Nat × Ob)) {fn : Func} {X : Run} {cl : Nat} {r : ResultVar} {x y : AV} {e : Exit} (hr : fn.results = #[r]) (he : e = .ret ∨ e = .normal) (hl : ResV P T H [r] [x]) (hZ : ∀ z ∈ Z, Hook H z.1 z.2.1 z.2.2) (hy : Rn [] Z x y) :
    At X cl (mk T H) (Out P fn X [] [] y e):=by
 have key:∀ a w,Sim X.n X.base X.w0 X.F (· < cl) (mk T H) a w→a.defers=[]∧∃ v,(results fn a.tmps).run P w = .ok v w∧∃ E',Held X.n.gl X.base X.w0 X.F E' [] w∧(∀ i∈([]:List Nat),∀ L,E' i 0=some L→X.F.E0 i=some L)∧VT (cx X.base X.F E' (· < 1) w) y v:=by
  rintro a w ⟨E,hs⟩
  have hh:Hand H [] Z []:=⟨rfl,by simp,by simp,fun z hz=>⟨hZ z hz,by simp⟩⟩
  obtain ⟨k1,k2⟩:=hh.held hs
  obtain ⟨vs,r1,r2,r3⟩:=hl.run hs
  refine ⟨hs.defers,_,results_of (rs:=[r]) hr r1,_,k1,by simp,?_⟩
  cases vs with
  | nil=>simp at r2
  | cons v vs =>
   cases vs with
   | cons=>simp at r2
   | nil=>exact (RnT.one _ _ hy).vt k2 (r3 0 x rfl v rfl)
 rcases he with rfl | rfl <;> exact fun a w hs=>key a w hs
end
end Go.Ar
namespace Go.Ar
open Go.RowKit
theorem VR.setCell {C:Cx}{xs:List AV}{j:Nat}{x y:AV} (hx:xs[j]? = some x) (hf:flat y=true) (hw:∀ u,VR C x [u]→VR C y [u]) {cs:List Value} (h:VR C (.agg xs) cs):VR C (.agg (xs.set j y)) cs:=by
 cases h with
 | agg _ _ h1 h2 h3 h4 =>
  refine .agg _ _ (by simpa using h1) h2 ?_ ?_
  ·intro z hz
   rcases List.mem_or_eq_of_mem_set hz with h | h
   ·exact h3 z h
   ·rw [h];exact hf
  ·intro i z hz c hc
   rw [List.getElem?_set] at hz
   split at hz
   ·rename_i e
    subst e
    split at hz
    ·cases hz;exact hw c (h4 j x hx c hc)
    ·cases hz
   ·exact h4 i z hz c hc
theorem ObR.setElem {C:Cx}{L:Loc}{sz:Nat}{xs:List AV}{i:Nat}{e e':AV} (he:xs[i]? = some e) (hw:∀ cs,VR C e cs→VR C e' cs) (h:ObR C L (.buf sz xs)):ObR C L (.buf sz (xs.set i e')):=by
 obtain ⟨h1,h2⟩:=h
 refine ⟨h1,?_⟩
 revert h2
 cases L.blk with
 | none=>intro h;have h:xs=[]:=h;subst h;rfl
 | some b =>
  rintro ⟨arr,t,a1,a2,a3,a4⟩
  refine ⟨arr,t,a1,a2,by simpa using a3,fun j z hz=>?_⟩
  rw [List.getElem?_set] at hz
  split at hz
  ·rename_i e1
   subst e1
   split at hz
   ·cases hz
    obtain ⟨cs,b1,b2,b3⟩:=a4 i e he
    exact ⟨cs,b1,hw cs b2,b3⟩
   ·cases hz
  ·exact a4 j z hz
section
variable {X : Run} {cl : Nat} {T : TL} {H : HL} {Φ : Act → World → Prop}
theorem atHnil (s s' sz i j : Nat) {g k : Nat} {xs cs : List AV} (hh : H.lookup s = some (some (g, .buf k xs))) (he : xs[i]? = some (.agg cs)) (hc : cs[j]? = some (.v (.slice none 0 0)))
    (h:At X (cl+1) (mk T ((s,some (g,.buf k (xs.set i (.agg (cs.set j (.own s' cl sz 0 0 true))))))::(s',some (cl,.buf sz []))::H)) Φ) (hne:s≠s'):At X cl (mk T H) Φ:=by
 rintro a w ⟨E,hs⟩
 have h1:=hs.make (dst:=none) (v:=undef) (w':=w) (r:=⟨[],[],.any,cl,[(s',some (cl,.buf sz []))]⟩) (s:=s') (o:=.buf sz []) (ks:=[]) (L:=⟨none,sz,0⟩) (Nat.lt_irrefl cl) rfl (by intro d e;cases e) (Below.refl _ _)
  (by intro b hb;cases hb) (fun _ _ _=>rfl) (fun E' _ _=>⟨rfl,rfl⟩) (fun E' _ _=>VT.any _ _)
 rw [app_mk0] at h1
 obtain ⟨E1,h1⟩:=h1
 have ho:(mk T ([(s',some (cl,Ob.buf sz []))]++H)).obj s g=some (.buf k xs):=(Hook.there s' _ H s g _ hne (hook_of hh)).obj
 obtain ⟨hg,L,hL,hr⟩:=h1.live s g _ ho
 have h2:=h1.write (dst:=none) (v:=undef) (w':=w) (r:=⟨[],[],.any,cl,[(s,some (g,.buf k (xs.set i (.agg (cs.set j (.own s' cl sz 0 0 true))))))]⟩) (o':=.buf k (xs.set i (.agg (cs.set j (.own s' cl sz 0 0 true))))) ho hL rfl (by intro d e;cases e) (Below.refl _ _) (fun _ _=>rfl)
  (fun hle=>ObR.setElem he (fun vs hv=>VR.setCell hc rfl (fun u hu=>by
   cases hu
   exact .own _ _ _ _ _ _ none 0 (.inr rfl) (by simp) (by simp) (by simp)) hv) (hr.mono hle fun _ _=>rfl)) (fun _=>VT.any _ _)
 rw [app_mk0] at h2
 exact h a w ⟨E1,h2.more fun g hg=>by
  show g < cl+1
  rcases hg with (hg | hg) | hg
  ·exact Nat.lt_succ_of_lt hg
  ·have hg:g=cl:=hg;omega
  ·have hg:g=cl:=hg;omega⟩
theorem meetI {P:Program}{ι:Type} (S:ι→St) (I:ι→Prop) {x y:Code}{st:St}{Q:Exit→Act→World→Prop} (hx:At X cl st (x.wp P (Exit.then (fun a w=>∃ j cl',I j∧Sim X.n X.base X.w0 X.F (· < cl') (S j) a w) Q))) (hy:∀ i cl,I i→At X cl (S i) (y.wp P Q)):At X cl st ((Code.seq x y).wp P Q) :=
 at_seq fun a w hs=>wp_mono (hx a w hs) fun e a' w' hh=>by
  cases e with
  | normal=>obtain ⟨i,cl',h1,h⟩:=hh;exact hy i cl' h1 a' w' h
  | _=>exact hh
theorem metI {ι:Type}{S:ι→St}{I:ι→Prop} (j:ι) {T':TL}{H':HL} (hS:S j=mk T' H') (hI:I j) (hT:LooksT T T') (hH:HooksT H H'):At X cl (mk T H) (fun a w=>∃ j cl',I j∧Sim X.n X.base X.w0 X.F (· < cl') (S j) a w) :=
 at_weak hT.all hH.all fun a w hs=>⟨j,cl,hI,by rw [hS];exact hs⟩
end
end Go.Ar
namespace Go.Ar
open Go.RowKit
section
variable {X : Run} {cl : Nat} {T : TL} {H : HL} {Φ : Act → World → Prop}
theorem frz {α : Type} {f : α → AV} {l : List α} (t s : Nat) {g sz len : Nat} {c : Bool} (hl : T.lookup t = some (.own s g sz 0 len c)) (hh : H.lookup s = some (some (g, .buf sz (l.map f)))) (hn : len = l.length) (hp : ∀ a, Pu (f a))
    (h:At X cl (mk ((t,.lst false sz (l.map f))::T) ((s,none)::H)) Φ):At X cl (mk T H) Φ :=
 at_freeze [(s,g,.buf sz (l.map f))] [(t,.own s g sz 0 len c,.lst false sz (l.map f))] (hz1 hh) (by
  intro p hp'
  simp only [List.mem_singleton] at hp'
  subst hp'
  exact ⟨look_of hl,.one _ _ (rn_own (by simp) (pu_map hp l) (by simp [hn]))⟩) h
theorem nilo (t s sz:Nat) (hl:T.lookup t=some (.v (.slice none 0 0))) (h:At X (cl+1) (mk ((t,.own s cl sz 0 0 true)::T) ((s,some (cl,.buf sz []))::H)) Φ):At X cl (mk T H) Φ:=at_nil (look_of hl) h
theorem uncl (t:Nat) {s g sz off len:Nat}{b:Bool} (hl:T.lookup t=some (.own s g sz off len b)) (h:At X cl (mk ((t,.own s g sz off len false)::T) H) Φ):At X cl (mk T H) Φ:=at_set (look_of hl) unclip h
end
end Go.Ar
namespace Go.Ar
open Go.RowKit
section plain
universe u
variable {α β γ : Type}
def ixP (l:List α) (q:Int) (k:α→Option β):Option β:=if 0≤q then (match l[q.toNat]? with | some x=>k x | none=>none) else none
def bdP (n:Nat) (q:Int) (k:Nat→Option β):Option β:=if 0≤q then (if q.toNat < n then k q.toNat else none) else none
def nzP (q:Int) (k:Option β):Option β:=if q=0 then none else k
def nnP (q:Int) (k:Option β):Option β:=if 0≤q then k else none
def gtP (l:List α) (i:Nat) (k:α→Option β):Option β:=match l[i]? with | some x=>k x | none=>none
def slP (l:List α) (a b:Int) (k:List α→Option β):Option β:=if 0≤a then (if a≤b then (if b.toNat≤l.length then k ((l.take b.toNat).drop a.toNat) else none) else none) else none
def apP (by_ n m:Nat) (k:Option β):Option β:=if (n+m) * by_≤140737488355328 then (if n+m≤140737488355328 then k else none) else none
theorem ixI {l:List α}{q:Int}{k:α→Option β}{y:β} (h:ixP l q k=some y):∃ (i:Nat) (x:α),q=(i:Int)∧l[i]? = some x∧k x=some y:=by
 unfold ixP at h
 split at h
 ·split at h
  ·rename_i h0 x hx;exact ⟨q.toNat,x,by omega,hx,h⟩
  ·cases h
 ·cases h
theorem bdI {n:Nat}{q:Int}{k:Nat→Option β}{y:β} (h:bdP n q k=some y):∃ i:Nat,q=(i:Int)∧i < n∧k i=some y:=by
 unfold bdP at h
 split at h
 ·split at h
  ·exact ⟨q.toNat,by omega,by assumption,h⟩
  ·cases h
 ·cases h
theorem nzI {q:Int}{k:Option β}{y:β} (h:nzP q k=some y):q≠0∧k=some y:=by
 unfold nzP at h
 split at h
 ·cases h
 ·exact ⟨by assumption,h⟩
theorem nnI {q:Int}{k:Option β}{y:β} (h:nnP q k=some y):0≤q∧k=some y:=by
 unfold nnP at h
 split at h
 ·exact ⟨by assumption,h⟩
 ·cases h
theorem gtI {l:List α}{i:Nat}{k:α→Option β}{y:β} (h:gtP l i k=some y):∃ x,l[i]? = some x∧k x=some y:=by
 unfold gtP at h
 split at h
 ·rename_i x hx;exact ⟨x,hx,h⟩
 ·cases h
theorem slI {l:List α}{a b:Int}{k:List α→Option β}{y:β} (h:slP l a b k=some y):∃ i j:Nat,a=(i:Int)∧b=(j:Int)∧i≤j∧j≤l.length∧k ((l.take j).drop i)=some y:=by
 unfold slP at h
 split at h
 ·split at h
  ·split at h
   ·exact ⟨a.toNat,b.toNat,by omega,by omega,by omega,by assumption,h⟩
   ·cases h
  ·cases h
 ·cases h
theorem apI {by_ n m:Nat}{k:Option β}{y:β} (h:apP by_ n m k=some y):(n+m) * by_≤140737488355328∧n+m≤140737488355328∧k=some y:=by
 unfold apP at h
 split at h
 ·split at h
  ·exact ⟨by assumption,by assumption,h⟩
  ·cases h
 ·cases h
theorem bndI {x:Option γ}{k:γ→Option β}{y:β} (h:x.bind k=some y):∃ r,x=some r∧k r=some y:=by
 cases x with
 | none=>cases h
 | some r=>exact ⟨r,rfl,h⟩
theorem bndK {x:Option γ}{H:γ→Option β}{y:β} (h:x.bind H=some y):∃ r,x=some r∧∃ k:γ→Option β,k=H∧k r=some y:=by
 cases x with
 | none=>cases h
 | some r=>exact ⟨r,rfl,H,rfl,h⟩
theorem ifT {c:Bool}{a b:Option β}{y:β} (hy:(bif c then a else b)=some y) (h:c=true):a=some y:=by subst h;exact hy
theorem ifF {c:Bool}{a b:Option β}{y:β} (hy:(bif c then a else b)=some y) (h:c=false):b=some y:=by subst h;exact hy
end plain
theorem pu_l {α:Type}{f:α→AV} (sz:Nat) (hf:∀ a,Pu (f a)) (l:List α):Pu (.lst false sz (l.map f)):=.lst _ _ (pu_map hf l)
theorem pu_a {xs:List AV} (h:PuL xs):Pu (.agg xs):=.agg _ (by
 intro x hx
 induction h with
 | nil=>simp at hx
 | cons h _ ih =>
  rcases List.mem_cons.1 hx with rfl | hx
  ·exact h
  ·exact ih hx)
section
variable {P : Program} {ops : Array Oper} {n : Nn} {c k : Nat} {rest : List Oper} {T : TL} {H : HL} {fs : List Foot} {K : List Foot → St → Prop}
variable {d ty : Nat} {pos : String} {aft : Array Edge} {gd : Option (Nat × Bool)} {gts ts ts0 ts1 ts2 ts3 : List Nat} {x x1 x2 x3 : Operand} {y y1 y2 : AV}
theorem fixP {α : Type} {f : α → AV} {l : List α} {t e : TypeId} {sz : Nat} {q : Int} {nw : Bool} {kd : IntKind} {i : Nat} {v : α} (ht : sl P t = some (e, sz)) (hq : q = (i : Int)) (hv : l[i]? = some v) (hg : gdOp ops T gd = some gts) (h1 : evOp T x1 = some (.lst nw sz (l.map f), ts1)) (h2 : evOp T x2 = some (.v (.int kd q), ts2)) (hd : Nat.blt d n.n = true)
    (next:RG P ops n c (k+1) rest (mk ((d,.fptr (f v) 0)::T) H) (⟨gts++(ts1++ts2),[],[]⟩::fs) K):RG P ops n c k (⟨some d,.indexAddr t x1 x2,ty,pos,aft,gd⟩::rest) (mk T H) fs K :=
 rg_findex (gd_of hg) (ev_of h1) (ev_of h2) ht hq (by simp [hv]) (lt_ok hd) next
theorem ixP' {t e : TypeId} {s g sz len : Nat} {q : Int} {cl : Bool} {kd : IntKind} {i : Nat} (ht : sl P t = some (e, sz)) (hq : q = (i : Int)) (hi : i < len) (hg : gdOp ops T gd = some gts) (h1 : evOp T x1 = some (.own s g sz 0 len cl, ts1)) (h2 : evOp T x2 = some (.v (.int kd q), ts2)) (hd : Nat.blt d n.n = true)
    (next:RG P ops n c (k+1) rest (mk ((d,.ptr s g i 0)::T) H) (⟨gts++(ts1++ts2),[],[]⟩::fs) K):RG P ops n c k (⟨some d,.indexAddr t x1 x2,ty,pos,aft,gd⟩::rest) (mk T H) fs K:=rg_index (gd_of hg) (ev_of h1) (ev_of h2) ht hq hi (lt_ok hd) (by simpa using next)
theorem ldP {α : Type} {f : α → AV} {l : List α} {t : TypeId} {s g i off sz m : Nat} {ag : Bool} {v : α} (ht : tk P t = some (ag, m)) (hv : l[i]? = some v) (hg : gdOp ops T gd = some gts) (hx : evOp T x = some (.ptr s g i off, ts)) (hh : H.lookup s = some (some (g, .buf sz (l.map f)))) (hy : partOf (f v) ag m off = some y) (hd : Nat.blt d n.n = true)
    (next:RG P ops n c (k+1) rest (mk ((d,y)::T) H) (⟨gts++ts,[s],[]⟩::fs) K):RG P ops n c k (⟨some d,.load t x,ty,pos,aft,gd⟩::rest) (mk T H) fs K:=ld ht hg hx hh (by simp [hv]) hy hd next
theorem stP {α : Type} {f : α → AV} {l : List α} {t : TypeId} {s g i off sz m : Nat} {ag : Bool} {v : α} (v' : α) (ht : tk P t = some (ag, m)) (hv : l[i]? = some v) (hg : gdOp ops T gd = some gts) (h1 : evOp T x1 = some (.ptr s g i off, ts1)) (h2 : evOp T x2 = some (y, ts2)) (hh : H.lookup s = some (some (g, .buf sz (l.map f)))) (hm : szOf y = some m) (he' : setPart (f v) off y = some (f v'))
    (next:RG P ops n c (k+1) rest (mk T ((s,some (g,.buf sz ((l.set i v').map f)))::H)) (⟨gts++(ts1++ts2),[s],[s]⟩::fs) K):RG P ops n c k (⟨none,.store t x1 x2,ty,pos,aft,gd⟩::rest) (mk T H) fs K :=
 str ht hg h1 h2 hh hm (by simp [hv]) he' (by rw [← List.map_set];exact next)
theorem fslhP {α : Type} {f : α → AV} {l : List α} {t e : TypeId} {r : Int} {kd : IntKind} {i j : Nat} {nw : Bool} {sz : Nat} (ht : sl P t = some (e, sz)) (hi : (0 : Int) = (i : Int)) (hr : r = (j : Int)) (hj : j ≤ l.length) (hg : gdOp ops T gd = some gts) (hx : evOp T x = some (.lst nw sz (l.map f), ts)) (h2 : evOp T x2 = some (.v (.int kd r), ts2)) (hd : Nat.blt d n.n = true)
    (next:RG P ops n c (k+1) rest (mk ((d,.lst nw sz (((l.take j).drop i).map f))::T) H) (⟨gts++(ts++[]++ts2),[],[]⟩::fs) K):RG P ops n c k (⟨some d,.slice t x none (some x2) none,ty,pos,aft,gd⟩::rest) (mk T H) fs K:=by
 have:i=0:=by omega
 subst this
 exact fsl ht hg hx .none (.some _ _ _ _ j (ev_of h2) hr) hd (Nat.zero_le _) hj (by simpa using next)
theorem fsllP {α : Type} {f : α → AV} {l : List α} {t e : TypeId} {q : Int} {kd : IntKind} {i j : Nat} {nw : Bool} {sz : Nat} (ht : sl P t = some (e, sz)) (hq : q = (i : Int)) (hr : (l.length : Int) = (j : Int)) (hij : i ≤ j) (hg : gdOp ops T gd = some gts) (hx : evOp T x = some (.lst nw sz (l.map f), ts)) (h2 : evOp T x2 = some (.v (.int kd q), ts2)) (hd : Nat.blt d n.n = true)
    (next:RG P ops n c (k+1) rest (mk ((d,.lst nw sz (((l.take j).drop i).map f))::T) H) (⟨gts++(ts++ts2++[]),[],[]⟩::fs) K):RG P ops n c k (⟨some d,.slice t x (some x2) none none,ty,pos,aft,gd⟩::rest) (mk T H) fs K:=by
 have:j=l.length:=by omega
 subst this
 exact fsl ht hg hx (.some _ _ _ _ i (ev_of h2) hq) .none hd (by simpa using hij) (by simp) (by simpa using next)
theorem aplP {α : Type} {f : α → AV} {l zs : List α} {t e : TypeId} {s g sz by_ : Nat} {cl nw : Bool} {zv : List Value} (ht : se P t = some (e, sz, zv, by_)) (hby : (l.length + zs.length) * by_ ≤ 140737488355328) (hsm : l.length + zs.length ≤ 140737488355328) (hg : gdOp ops T gd = some gts) (h1 : evOp T x1 = some (.own s g sz 0 l.length cl, ts1)) (h2 : evOp T x2 = some (.lst nw sz (zs.map f), ts2)) (hh : H.lookup s = some (some (g, .buf sz (l.map f)))) (hd : Nat.blt d n.n = true)
    (next:RG P ops n c (k+1) rest (mk ((d,.own s (c+k) sz 0 (l++zs).length false)::T) ((s,some (c+k,.buf sz ((l++zs).map f)))::(s,none)::H)) (⟨gts++(ts1++ts2),[s],[s,s]⟩::fs) K) :
    RG P ops n c k (⟨some d,.call ⟨.builtin .append,#[x1,x2],#[t,t]⟩,ty,pos,aft,gd⟩::rest) (mk T H) fs K:=apl s ht hg h1 h2 hh hd rfl hby hsm next
theorem apoP {α : Type} {f : α → AV} {l zs : List α} {t e : TypeId} {s g sz by_ s2 g2 : Nat} {cl cl2 : Bool} {zv : List Value} (ht : se P t = some (e, sz, zv, by_)) (hby : (l.length + zs.length) * by_ ≤ 140737488355328) (hsm : l.length + zs.length ≤ 140737488355328) (hg : gdOp ops T gd = some gts) (h1 : evOp T x1 = some (.own s g sz 0 l.length cl, ts1)) (h2 : evOp T x2 = some (.own s2 g2 sz 0 zs.length cl2, ts2)) (hh : H.lookup s = some (some (g, .buf sz (l.map f)))) (hh2 : H.lookup s2 = some (some (g2, .buf sz (zs.map f)))) (hd : Nat.blt d n.n = true)
    (next:RG P ops n c (k+1) rest (mk ((d,.own s (c+k) sz 0 (l++zs).length false)::T) ((s,some (c+k,.buf sz ((l++zs).map f)))::(s,none)::H)) (⟨gts++(ts1++ts2),[s,s2],[s,s]⟩::fs) K) :
    RG P ops n c k (⟨some d,.call ⟨.builtin .append,#[x1,x2],#[t,t]⟩,ty,pos,aft,gd⟩::rest) (mk T H) fs K:=apo zs s ht hg h1 h2 hh hh2 hd rfl (by simp) (by rw [List.drop_zero,List.take_of_length_le (by simp)]) hby hsm next
theorem bldsP {α : Type} (f : α → AV) (l : List α) (s : Nat) {t e : TypeId} {len sz by_ : Nat} {zs : List Value} {parts : List (Nat × Operand)} {ps : List (Nat × AV)} (ht : se P t = some (e, sz, zs, by_)) (hg : gdOp ops T gd = some gts) (hx : evPs T parts = some (ps, ts)) (hok : setOk sz len ps = true) (hy : setAll (List.replicate len (zeroA zs)) ps = l.map f) (hsm : Nat.ble (len * sz) 16777216 = true) (hd : Nat.blt d n.n = true) (hl : len = l.length)
    (next:RG P ops n c (k+1) rest (mk ((d,.own s (c+k) sz 0 l.length false)::T) ((s,some (c+k,.buf sz (l.map f)))::H)) (⟨gts++ts,[],[s]⟩::fs) K):RG P ops n c k (⟨some d,.buildSlice t len parts.toArray,ty,pos,aft,gd⟩::rest) (mk T H) fs K:=by
 subst hl;exact blds s ht hg hx hok hy hsm hd next
end
section
variable {X : Run} {cl : Nat} {T : TL} {H : HL} {Φ : Act → World → Prop}
theorem frzP {α : Type} {f : α → AV} {l : List α} (t s : Nat) {g sz : Nat} {c : Bool} (hl : T.lookup t = some (.own s g sz 0 l.length c)) (hh : H.lookup s = some (some (g, .buf sz (l.map f)))) (hp : ∀ a, Pu (f a))
    (h:At X cl (mk ((t,.lst false sz (l.map f))::T) ((s,none)::H)) Φ):At X cl (mk T H) Φ:=frz t s hl hh rfl hp h
theorem atnilP {α:Type} (f:α→AV) (t sz:Nat) (h:T.lookup t=some (.v (.slice none 0 0))) (next:At X cl (mk ((t,.lst false sz (([]:List α).map f))::T) H) Φ):At X cl (mk T H) Φ:=atnil t sz h next
theorem niloP {α:Type} (f:α→AV) (t s sz:Nat) (hl:T.lookup t=some (.v (.slice none 0 0))) (h:At X (cl+1) (mk ((t,.own s cl sz 0 ([]:List α).length false)::(t,.own s cl sz 0 0 true)::T) ((s,some (cl,.buf sz (([]:List α).map f)))::H)) Φ):At X cl (mk T H) Φ :=
 nilo t s sz hl (uncl t (b:=true) (by simp [List.lookup]) h)
end
end Go.Ar
namespace Go.Ar
open Go.RowKit
section
variable {n : Nn} {base : Nat} {w0 : World} {F : Fr} {G : Nat → Prop} {E : Nat → Nat → Option Loc} {st : St} {a : Act} {w : World}
theorem SimE.frz (hs : SimE n base w0 F G E st a w) {s g sz len d : Nat} {cl : Bool} {xs : List AV} (ho : st.obj s g = some (.buf sz xs)) (hx : ∀ x ∈ xs, Pu x) {st' : St} (hd : st.T d = .own s g sz 0 len cl) (hl : len = xs.length)
    (hT:∀ t,st'.T t=if t=d then .lst false sz xs else st.T t) (hH:∀ u,st'.H u=if u=s then none else st.H u):∃ E',SimE n base w0 F G E' st' a w:=by
 let E':Nat→Nat→Option Loc:=fun u g=>if u=s then none else E u g
 have hE':∀ u g L,E' u g=some L→u≠s∧E u g=some L:=by
  intro u g L hh
  simp only [E'] at hh
  split at hh
  ·cases hh
  ·exact ⟨‹_›,hh⟩
 have hobj:∀ u g,st'.obj u g=if u=s then none else st.obj u g:=by
  intro u g
  unfold St.obj
  rw [hH]
  by_cases e:u=s
  ·simp [e]
  ·simp [e]
 have hle:(cx base F E G w).Le (cx base F E' G w):=by
  refine ⟨fun s g L _ hh=>(hE' s g L hh).2,fun _ hh=>hh,fun nw b hB=>⟨⟨hB.1,?_,hB.2.2⟩,rfl⟩⟩
  rintro ⟨s,g,L,e1,e2⟩
  exact hB.2.1 ⟨s,g,L,(hE' s g L e1).2,e2⟩
 have hrn:Cx.Rn [] [(s,g,.buf sz xs)] (cx base F E G w) (cx base F E' G w):=by
  refine ⟨by simp,by simp,fun b hb=>(hle.B _ _ hb).1,rfl,fun z hz=>?_⟩
  simp only [List.mem_singleton] at hz
  subst hz
  obtain ⟨_,L,hL,hob⟩:=hs.live _ _ _ ho
  refine ⟨L,hL,hob,fun b hb=>?_⟩
  have hf:=hs.far _ _ _ _ hL hb
  refine ⟨hf.2,?_,?_⟩
  ·rintro ⟨s',g',L',e1,e2⟩
   obtain ⟨k1,k2⟩:=hE' s' g' L' e1
   have:=hs.inj _ _ _ _ _ _ b hL k2 hb e2
   exact k1 this.1.symm
  ·rcases hf.1 with k | k
   ·exact .inl k
   ·exact .inr (.inl k)
 refine ⟨E',hs.defers,hs.size,hs.glob,hs.below,hs.keep,hs.old,hs.bsz,?_,?_,?_,?_,hs.g0,fun s L hh=>hs.init s L (hE' _ _ _ hh).2,?_⟩
 ·intro u g hh
  rw [hobj] at hh
  simp only [E']
  split
  ·rfl
  ·rename_i e;rw [if_neg e] at hh;exact hs.dead u g hh
 ·intro u g o hh
  rw [hobj] at hh
  split at hh
  ·cases hh
  ·rename_i e
   obtain ⟨hg,L,hL,hr⟩:=hs.live u g o hh
   exact ⟨hg,L,by simp only [E',if_neg e];exact hL,hr.mono hle fun _ _=>rfl⟩
 ·intro s g L b e1 e2;exact hs.far s g L b (hE' _ _ _ e1).2 e2
 ·intro s g s' g' L L' b e1 e2 e3 e4;exact hs.inj s g s' g' L L' b (hE' _ _ _ e1).2 (hE' _ _ _ e2).2 e3 e4
 ·intro t
  rw [hT]
  split
  ·rename_i e
   subst e
   have:=hs.tmps t
   rw [hd] at this
   exact (RnT.one _ _ (rn_own (σ:=[]) (by simp) hx hl)).vt hrn this
  ·exact (hs.tmps t).mono hle
end
section
variable {P : Program} {ops : Array Oper} {n : Nn} {c k : Nat} {rest : List Oper} {T : TL} {H : HL} {fs : List Foot} {K : List Foot → St → Prop}
theorem rg_newF (s : Nat) {o : Oper} {tl gts : List Nat} {d sz len : Nat} {xs : List AV} (hpu : ∀ x ∈ xs, Pu x) (hlen : len = xs.length) {rd : List (Nat × Nat × Ob)} (ho : o.dst = some d) (hd : d < n.n) (hgd : Gd ops T o.guard gts) (hrd : ∀ p ∈ rd, Hook H p.1 p.2.1 p.2.2)
    (hv:∀ (C:Cx) (a:Act) (w:World),C.w=w→(∀ p∈rd,∃ L,C.E p.1 p.2.1=some L∧ObR C L p.2.2)→(∀ x z ts,Ev T x z ts→(∀ t∈ts,t∈tl)→VT C z (a.eval x)) →
     ∃ ns e cap,(execOp a.eval o).run P w = .ok (.value (.slice (some ⟨w.heap.size,0,none⟩) len cap)) (w.alloc (.cells ns e)) ∧
      len≤cap∧cap * sz≤ns.size∧∃ ms,Elems C sz xs ms∧∀ (i:Nat) u,ms[i]? = some u→ns[i]? = some u)
    (next:RG P ops n c (k+1) rest (mk ((d,.lst false sz xs)::T) ((s,none)::H)) (⟨gts++tl,rd.map (·.1),[s]⟩::fs) K):RG P ops n c k (o::rest) (mk T H) fs K:=by
 refine rg_core (r:=⟨(gts++tl).map fun t=>(t,lookT T t),rd,.lst false sz xs,c+k,[(s,none)]⟩) hgd rfl hrd rfl ?_ ?_
 ·intro base w0 F G E st a w Q K' hG hp hs hK
  obtain ⟨ns,e,cap,hrun,hc1,hc2,ms,hel,hms⟩:=hv (cx base F E G w) a w rfl (fun p hp'=>(hs.live _ _ _ (hp.reads p hp')).2) (fun x z ts hx hts=>hs.opd hp (opd_of rfl hx hts))
  unfold Oper.wp
  rw [hrun]
  have hm:=hs.make (s:=s) (o:=.buf sz xs) (ks:=[]) (L:=⟨some w.heap.size,sz,ns.size⟩) (r:=⟨[],[],.own s (c+k) sz 0 len false,c+k,[(s,some (c+k,.buf sz xs))]⟩) (dst:=o.dst) (v:=.slice (some ⟨w.heap.size,0,none⟩) len cap) (w':=w.alloc (.cells ns e))
   hG rfl (by rw [ho];intro d' e;cases e;exact hd) ((Below.refl _ _).alloc (Nat.zero_le _) _) ?_ ?_ ?_ ?_
  ·obtain ⟨E1,hm⟩:=hm
   refine hK _ _ ?_
   refine hm.frz (s:=s) (g:=c+k) (d:=d) (len:=len) (cl:=false) (xs:=xs) (sz:=sz) ?_ hpu ?_ hlen ?_ ?_
   ·simp [St.obj,St.app,effsH]
   ·rw [ho];simp [St.app,upd]
   ·intro t;rw [ho];simp only [St.app,upd];split <;> simp_all
   ·intro u
    by_cases e:u=s
    ·subst e;simp [St.app,effsH,List.lookup]
    ·have e':(u == s)=false:=by simpa using e
     simp [St.app,effsH,List.lookup,e,e']
  ·intro b hb
   cases hb
   exact .inl ⟨Nat.le_refl _,by simp⟩
  ·intro b hb _
   exact Below.heap_alloc _ _ _ hb
  ·intro E' hle hE'
   exact ob_of (b:=w.heap.size) (arr:=ns) (t:=e) rfl rfl (heap_alloc_new w _) rfl (hel.mono hle) hms
  ·intro E' hle hE'
   refine ⟨rfl,.own _ _ _ _ _ _ _ _ (.inr rfl) hc1 (fun h=>nomatch h) fun _=>⟨_,0,rfl,fun L hL=>?_⟩⟩
   have hL:E' s (c+k)=some L:=hL
   rw [hE'] at hL
   cases hL
   exact ⟨rfl,rfl,by simp,by simpa using hc2⟩
 ·rw [ho,app_mk,foot_of]
  exact next
theorem bldsF {α : Type} (f : α → AV) (l : List α) (s : Nat) {d ty : Nat} {pos : String} {aft : Array Edge} {gd : Option (Nat × Bool)} {gts ts : List Nat} {t e : TypeId} {len sz by_ : Nat} {zs : List Value} {parts : List (Nat × Operand)} {ps : List (Nat × AV)} (hp : ∀ a, Pu (f a))
    (ht:se P t=some (e,sz,zs,by_)) (hg:gdOp ops T gd=some gts) (hx:evPs T parts=some (ps,ts)) (hok:setOk sz len ps=true) (hy:setAll (List.replicate len (zeroA zs)) ps=l.map f) (hsm:Nat.ble (len * sz) 16777216=true) (hd:Nat.blt d n.n=true) (hl:len=l.length)
    (next:RG P ops n c (k+1) rest (mk ((d,.lst false sz (l.map f))::T) ((s,none)::H)) (⟨gts++ts,[],[s]⟩::fs) K) :
    RG P ops n c k (⟨some d,.buildSlice t len parts.toArray,ty,pos,aft,gd⟩::rest) (mk T H) fs K:=by
 rw [← hy] at next
 have hpu:∀ x∈setAll (List.replicate len (zeroA zs)) ps,Pu x:=by rw [hy];exact pu_map hp l
 have hlen:len=(setAll (List.replicate len (zeroA zs)) ps).length:=by rw [hy];simpa using hl
 have hsm:=le_ok hsm
 have hd:=lt_ok hd
 have hx:=evPs_of hx
 refine rg_newF s (rd:=[]) hpu hlen rfl hd (gd_of hg) (by simp) (fun C a w _ _ hop=>?_) next
 obtain ⟨h1,h2⟩:=evs_vt hop hx fun _ h=>h
 obtain ⟨hu,i,z,hi,hz,hsz,_,hzc,hzl,hpos,hall⟩:=se_parts ht
 obtain ⟨ns',hf,hel⟩:=fill_elems (sz:=sz) ps _ (List.replicate len (zeroA zs)) _ (by rw [← hzl];exact Elems.replicate (zeroA_VR (C:=C) hall) len) (by simp) h1 h2 hok
 have hnl:ns'.length=len * sz:=by rw [hel.len];rw [setAll_length];simp
 refine ⟨ns'.toArray,e,len,?_,Nat.le_refl _,by simp [hnl],ns',hel,by simp⟩
 simp only [execOp,Bool.false_eq_true,if_false,List.map_toArray]
 unfold Instr.buildSlice
 have hund:(underlying t).run P w = .ok (.slice e) w:=by unfold underlying;simp [Go.program,bind,Sem.bind,Sem.run,hu,pure]
 have hsize:(sizeOf e).run P w = .ok sz w:=by unfold sizeOf typeInfo;simp [Go.program,bind,Sem.bind,Sem.run,hi,hsz,pure]
 have hzero:(zeroValue e).run P w = .ok z w:=by unfold zeroValue typeInfo;simp [Go.program,bind,Sem.bind,Sem.run,hi,hz,pure]
 have hinit:∀ zc:Array Value,(len * sz=0∨zc=zs.toArray)→(Array.range (len * sz)).map (zc[· % zc.size]!)=((List.replicate len zs).flatten).toArray:=by
  rintro zc (h0 | rfl)
  ·rw [h0]
   have h3:len=0:=by
    rcases Nat.mul_eq_zero.1 h0 with h | h
    ·exact h
    ·omega
   subst h3
   simp
  ·have:=mod_cells (zs:=zs) (by omega) len
   rw [hzl] at this
   simpa [hzl] using this
 have hrun:(Instr.buildSlice t len (parts.map fun p=>(p.1,a.eval p.2)).toArray).run P w = .ok (.slice (some ⟨w.heap.size,0,none⟩) len len) (w.alloc (.cells ns'.toArray e)):=by
  unfold Instr.buildSlice
  rw [run_bind_ok hund]
  simp only
  rw [run_bind_ok hsize,if_neg (by omega)]
  by_cases h0:len * sz=0
  ·simp only [h0,if_true]
   rw [run_bind_ok (v:=#[]) (w':=w) rfl]
   have:=hinit #[] (.inl h0)
   rw [h0] at this
   rw [this,hf]
   rfl
  ·simp only [h0,if_false]
   rw [run_bind_ok hzero,run_bind_ok (v:=zs.toArray) (w':=w) (by rw [hzc];rfl)]
   rw [hinit _ (.inr rfl),hf]
   rfl
 have:=run_bind_ok (f:=fun v=>(pure (Next.value v):Sem Next)) hrun
 exact this
end
end Go.Ar
namespace Go.Ar
open Go.RowKit
section
variable {X : Run} {cl : Nat} {T : TL} {H : HL} {Φ : Act → World → Prop}
theorem at_obj (s:Nat) {g:Nat}{o o':Ob} (hh:H.lookup s=some (some (g,o))) (ho:∀ C L,ObR C L o→ObR C L o') (h:At X cl (mk T ((s,some (g,o'))::H)) Φ):At X cl (mk T H) Φ:=by
 rintro a w ⟨E,hs⟩
 have hl:∀ u,lookH ((s,some (g,o'))::H) u=if u=s then some (g,o') else lookH H u:=by
  intro u
  unfold lookH
  by_cases e:u=s
  ·subst e;simp [List.lookup]
  ·have:(u == s)=false:=by simpa using e
   simp [List.lookup,this,e]
 have hlo:lookH H s=some (g,o):=by simp [lookH,hh]
 have hobj:∀ u g',(mk T ((s,some (g,o'))::H)).obj u g'=if u=s then (if g=g' then some o' else none) else (mk T H).obj u g':=by
  intro u g'
  unfold St.obj mk
  simp only [hl]
  by_cases e:u=s
  ·simp [e]
  ·simp [e]
 have hobj0:∀ g',(mk T H).obj s g'=if g=g' then some o else none:=by
  intro g'
  unfold St.obj mk
  simp only [hlo]
 refine h a w ⟨E,hs.defers,hs.size,hs.glob,hs.below,hs.keep,hs.old,hs.bsz,?_,?_,hs.far,hs.inj,hs.g0,hs.init,hs.tmps⟩
 ·intro u g' hh'
  rw [hobj] at hh'
  by_cases e:u=s
  ·subst e
   rw [if_pos rfl] at hh'
   refine hs.dead u g' ?_
   rw [hobj0]
   split at hh'
   ·cases hh'
   ·rename_i e;rw [if_neg e]
  ·rw [if_neg e] at hh';exact hs.dead u g' hh'
 ·intro u g' o2 hh'
  rw [hobj] at hh'
  by_cases e:u=s
  ·subst e
   rw [if_pos rfl] at hh'
   split at hh'
   ·rename_i e
    cases hh'
    obtain ⟨k1,L,k2,k3⟩:=hs.live u g' o (by rw [hobj0,if_pos e])
    exact ⟨k1,L,k2,ho _ _ k3⟩
   ·cases hh'
  ·rw [if_neg e] at hh';exact hs.live u g' o2 hh'
theorem atcell (s i j : Nat) {g k : Nat} {xs cs : List AV} {x y : AV} (hh : H.lookup s = some (some (g, .buf k xs))) (he : xs[i]? = some (.agg cs)) (hc : cs[j]? = some x) (hf : flat y = true) (hw : ∀ C u, VR C x [u] → VR C y [u])
    (h:At X cl (mk T ((s,some (g,.buf k (xs.set i (.agg (cs.set j y)))))::H)) Φ):At X cl (mk T H) Φ :=
 at_obj s hh (fun C L hr=>ObR.setElem he (fun vs hv=>VR.setCell hc hf (hw C) hv) hr) h
theorem vr_nil {α:Type} (f:α→AV) (sz:Nat) (C:Cx) (u:Value) (h:VR C (.v (.slice none 0 0)) [u]):VR C (.lst false sz (([]:List α).map f)) [u]:=by
 cases h
 exact .lst false sz [] none 0 (fun _=>[]) (by simp) (by simp) (by simp) (by simp)
theorem vr_unclip {s g sz off len:Nat}{b:Bool} (C:Cx) (u:Value) (h:VR C (.own s g sz off len b) [u]):VR C (.own s g sz off len false) [u]:=by
 cases h with
 | own _ _ _ _ _ _ A c h1 h2 h3 h4=>exact .own _ _ _ _ _ _ A c h1 h2 (fun h=>nomatch h) h4
theorem cellN {α : Type} (f : α → AV) (s j sz : Nat) {g k : Nat} {cs : List AV} (hh : H.lookup s = some (some (g, .buf k [.agg cs]))) (hc : cs[j]? = some (.v (.slice none 0 0)))
    (h:At X cl (mk T ((s,some (g,.buf k [.agg (cs.set j (.lst false sz (([]:List α).map f)))]))::H)) Φ):At X cl (mk T H) Φ :=
 atcell s 0 j hh rfl hc rfl (fun C u=>vr_nil f sz C u) h
theorem cellO {α : Type} (f : α → AV) (s s' j sz : Nat) {g k : Nat} {cs : List AV} (hh : H.lookup s = some (some (g, .buf k [.agg cs]))) (hc : cs[j]? = some (.v (.slice none 0 0))) (hne : Nat.beq s s' = false)
    (h:At X (cl+1) (mk T ((s,some (g,.buf k [.agg (cs.set j (.own s' cl sz 0 ([]:List α).length false))]))::(s,some (g,.buf k [.agg (cs.set j (.own s' cl sz 0 0 true))]))::(s',some (cl,.buf sz (([]:List α).map f)))::H)) Φ):At X cl (mk T H) Φ:=by
 have hne:s≠s':=Nat.ne_of_beq_eq_false hne
 have hj:j < cs.length:=(List.getElem?_eq_some_iff.1 hc).1
 refine atHnil s s' sz 0 j hh rfl hc ?_ hne
 refine atcell s 0 j (x:=.own s' cl sz 0 0 true) (y:=.own s' cl sz 0 0 false) (g:=g) (k:=k) (xs:=[.agg (cs.set j (.own s' cl sz 0 0 true))]) (cs:=cs.set j (.own s' cl sz 0 0 true)) (by simp [List.lookup]) rfl (by simp [hj]) rfl (fun C u=>vr_unclip C u) ?_
 simpa using h
theorem frzB (t s:Nat) {g sz:Nat}{e:AV} (hl:T.lookup t=some (.ptr s g 0 0)) (hh:H.lookup s=some (some (g,.buf sz [e]))) (hp:Pu e) (h:At X cl (mk ((t,.fptr e 0)::T) ((s,none)::H)) Φ):At X cl (mk T H) Φ :=
 at_freeze [(s,g,.buf sz [e])] [(t,.ptr s g 0 0,.fptr e 0)] (hz1 hh) (by
  intro p hp'
  simp only [List.mem_singleton] at hp'
  subst hp'
  exact ⟨look_of hl,.one _ _ (.zptr s g sz [e] 0 0 e e (by simp) rfl (.pu _ hp))⟩) h
theorem cellF {α : Type} {f : α → AV} {l : List α} (s s' j : Nat) {g g' k sz : Nat} {c : Bool} {cs : List AV} (hh : H.lookup s = some (some (g, .buf k [.agg cs]))) (hc : cs[j]? = some (.own s' g' sz 0 l.length c)) (hh' : H.lookup s' = some (some (g', .buf sz (l.map f)))) (hp : ∀ a, Pu (f a)) (hne : Nat.beq s s' = false)
    (h:At X cl (mk T ((s,some (g,.buf k [.agg (cs.set j (.lst false sz (l.map f)))]))::(s',none)::H)) Φ):At X cl (mk T H) Φ:=by
 have hne:s≠s':=Nat.ne_of_beq_eq_false hne
 rintro a w ⟨E,hs⟩
 let E':Nat→Nat→Option Loc:=fun u g=>if u=s' then none else E u g
 have hE':∀ u g L,E' u g=some L→u≠s'∧E u g=some L:=by
  intro u g L hh
  simp only [E'] at hh
  split at hh
  ·cases hh
  ·exact ⟨‹_›,hh⟩
 have ho':(mk T H).obj s' g'=some (.buf sz (l.map f)):=(hook_of hh').obj
 have ho:(mk T H).obj s g=some (.buf k [.agg cs]):=(hook_of hh).obj
 have hl:∀ u,lookH ((s,some (g,Ob.buf k [.agg (cs.set j (.lst false sz (l.map f)))]))::(s',none)::H) u=if u=s then some (g,Ob.buf k [.agg (cs.set j (.lst false sz (l.map f)))]) else if u=s' then none else lookH H u:=by
  intro u
  unfold lookH
  by_cases e:u=s
  ·subst e;simp [List.lookup]
  ·have e1:(u == s)=false:=by simpa using e
   by_cases e2:u=s'
   ·subst e2;simp [List.lookup,e1,e]
   ·have e3:(u == s')=false:=by simpa using e2
    simp [List.lookup,e1,e,e2,e3]
 have hlo:lookH H s=some (g,.buf k [.agg cs]):=by simp [lookH,hh]
 have hobj:∀ u g1,(mk T ((s,some (g,Ob.buf k [.agg (cs.set j (.lst false sz (l.map f)))]))::(s',none)::H)).obj u g1=if u=s then (if g=g1 then some (Ob.buf k [.agg (cs.set j (.lst false sz (l.map f)))]) else none) else if u=s' then none else (mk T H).obj u g1:=by
  intro u g1
  unfold St.obj mk
  simp only [hl]
  by_cases e:u=s
  ·simp [e]
  ·by_cases e2:u=s'
   ·subst e2;simp [e]
   ·simp [e,e2]
 have hle:(cx X.base X.F E (· < cl) w).Le (cx X.base X.F E' (· < cl) w):=by
  refine ⟨fun s g L _ hh=>(hE' s g L hh).2,fun _ hh=>hh,fun nw b hB=>⟨⟨hB.1,?_,hB.2.2⟩,rfl⟩⟩
  rintro ⟨s,g,L,e1,e2⟩
  exact hB.2.1 ⟨s,g,L,(hE' s g L e1).2,e2⟩
 have hrn:Cx.Rn [] [(s',g',.buf sz (l.map f))] (cx X.base X.F E (· < cl) w) (cx X.base X.F E' (· < cl) w):=by
  refine ⟨by simp,by simp,fun b hb=>(hle.B _ _ hb).1,rfl,fun z hz=>?_⟩
  simp only [List.mem_singleton] at hz
  subst hz
  obtain ⟨_,L,hL,hob⟩:=hs.live _ _ _ ho'
  refine ⟨L,hL,hob,fun b hb=>?_⟩
  have hf:=hs.far _ _ _ _ hL hb
  refine ⟨hf.2,?_,?_⟩
  ·rintro ⟨s2,g2,L',e1,e2⟩
   obtain ⟨k1,k2⟩:=hE' s2 g2 L' e1
   have:=hs.inj _ _ _ _ _ _ b hL k2 hb e2
   exact k1 this.1.symm
  ·rcases hf.1 with k | k
   ·exact .inl k
   ·exact .inr (.inl k)
 refine h a w ⟨E',hs.defers,hs.size,hs.glob,hs.below,hs.keep,hs.old,hs.bsz,?_,?_,?_,?_,hs.g0,fun s L hh=>hs.init s L (hE' _ _ _ hh).2,fun t=>(hs.tmps t).mono hle⟩
 ·intro u g1 hh1
  rw [hobj] at hh1
  simp only [E']
  by_cases e2:u=s'
  ·rw [if_pos e2]
  ·rw [if_neg e2]
   refine hs.dead u g1 ?_
   by_cases e:u=s
   ·subst e
    rw [if_pos rfl] at hh1
    split at hh1
    ·cases hh1
    ·rename_i e;unfold St.obj mk;simp only [hlo,if_neg e]
   ·rw [if_neg e,if_neg e2] at hh1;exact hh1
 ·intro u g1 o hh1
  rw [hobj] at hh1
  by_cases e:u=s
  ·subst e
   rw [if_pos rfl] at hh1
   split at hh1
   ·rename_i e
    cases hh1;subst e
    obtain ⟨hg,L,hL,hr⟩:=hs.live _ _ _ ho
    refine ⟨hg,L,by simp only [E',if_neg hne];exact hL,?_⟩
    have h1:ObR (cx X.base X.F E' (· < cl) w) L (.buf k [.agg cs]):=hr.mono hle fun _ _=>rfl
    obtain ⟨q1,q2⟩:=hr
    refine ⟨q1,?_⟩
    revert q2
    cases L.blk with
    | none=>intro q2;have q2:[AV.agg cs]=[]:=q2;cases q2
    | some b =>
     rintro ⟨arr,t,a1,a2,a3,a4⟩
     refine ⟨arr,t,a1,a2,by simpa using a3,fun i z hz=>?_⟩
     cases i with
     | succ i=>simp at hz
     | zero =>
      simp at hz
      subst hz
      obtain ⟨vs,b1,b2,b3⟩:=a4 0 _ rfl
      refine ⟨vs,b1,?_,b3⟩
      cases b2 with
      | agg _ _ c1 c2 c3 c4 =>
       refine .agg _ _ (by simpa using c1) c2 ?_ ?_
       ·intro z hz
        rcases List.mem_or_eq_of_mem_set hz with h | h
        ·exact c3 z h
        ·rw [h];rfl
       ·intro i z hz c hcv
        rw [List.getElem?_set] at hz
        split at hz
        ·rename_i e
         subst e
         split at hz
         ·cases hz
          exact (rn_own (σ:=[]) (Z:=[(s',g',.buf sz (l.map f))]) (by simp) (pu_map hp l) (by simp)).vr hrn (c4 j _ hc c hcv)
         ·cases hz
        ·exact (c4 i z hz c hcv).mono hle
   ·cases hh1
  ·rw [if_neg e] at hh1
   split at hh1
   ·cases hh1
   ·rename_i e2
    obtain ⟨hg,L,hL,hr⟩:=hs.live u g1 o hh1
    exact ⟨hg,L,by simp only [E',if_neg e2];exact hL,hr.mono hle fun _ _=>rfl⟩
 ·intro s g L b e1 e2;exact hs.far s g L b (hE' _ _ _ e1).2 e2
 ·intro s g s' g' L L' b e1 e2 e3 e4;exact hs.inj s g s' g' L L' b (hE' _ _ _ e1).2 (hE' _ _ _ e2).2 e3 e4
theorem meetT {P:Program}{ι:Type} (S:ι→St) (I:ι→Prop) {x:Code}{st:St}{Q:Exit→Act→World→Prop} (hx:At X cl st (x.wp P (Exit.then (fun a w=>∃ j cl',I j∧Sim X.n X.base X.w0 X.F (· < cl') (S j) a w) Q))) (hy:∀ i cl,I i→At X cl (S i) (Q .normal)):At X cl st (x.wp P Q) :=
 fun a w hs=>wp_mono (hx a w hs) fun e a' w' hh=>by
  cases e with
  | normal=>obtain ⟨i,cl',h1,h⟩:=hh;exact hy i cl' h1 a' w' h
  | _=>exact hh
end
end Go.Ar
namespace Go.Ar
open Go.RowKit
structure KeyE {κ:Type} (P:Program) (kt:TypeId) (ek:κ→Value):Prop where
 key:∃ ok,KeyP P kt ok∧∀ k,ok (ek k)
 inj:∀ a b,ek a=ek b→a=b
theorem kInt {P:Program}{kt:TypeId}{kd:IntKind} (h:P.underlying kt=some (.int kd)):KeyE P kt (Value.int .i64):=⟨⟨intKey,keyP_int h,fun k=>⟨k,rfl⟩⟩,fun a b h=>by cases h;rfl⟩
def mkP {β:Type} (by_:Nat) (q:Int) (k:Nat→Option β):Option β:=if 0≤q then (if by_ * q.toNat≤140737488355328 then k q.toNat else none) else none
theorem mkI {β:Type}{by_:Nat}{q:Int}{k:Nat→Option β}{y:β} (h:mkP by_ q k=some y):∃ i:Nat,q=(i:Int)∧by_ * i≤140737488355328∧k i=some y:=by
 unfold mkP at h
 split at h
 ·split at h
  ·exact ⟨q.toNat,by omega,by assumption,h⟩
  ·cases h
 ·cases h
section
variable {P : Program} {ops : Array Oper} {n : Nn} {c k : Nat} {rest : List Oper} {T : TL} {H : HL} {fs : List Foot} {K : List Foot → St → Prop}
variable {d ty : Nat} {pos : String} {aft : Array Edge} {gd : Option (Nat × Bool)} {gts ts ts0 ts1 ts2 ts3 : List Nat} {x x1 x2 x3 : Operand} {y y1 y2 : AV}
theorem mkM {κ ν : Type} [DecidableEq κ] (ek : κ → Value) (ev : ν → AV) (s : Nat) {t : TypeId} (hg : gdOp ops T gd = some gts) (hd : Nat.blt d n.n = true)
    (next:RG P ops n c (k+1) rest (mk ((d,.mp s (c+k))::T) ((s,some (c+k,.map (encM ek ev (Mp.empty:Mp κ ν))))::H)) (⟨gts++[],[],[s]⟩::fs) K):RG P ops n c k (⟨some d,.makeMap t none,ty,pos,aft,gd⟩::rest) (mk T H) fs K:=rg_makeMap (gd_of hg) (lt_ok hd) next
theorem upM {κ ν : Type} [DecidableEq κ] {ek : κ → Value} {ev : ν → AV} {m : Mp κ ν} {q : κ} {v : ν} {t kt e : TypeId} {s g : Nat} {yk : AV} (hk : KeyE P kt ek) (ht : mt P t = some (kt, e)) (hev : szOf (ev v) ≠ none) (hg : gdOp ops T gd = some gts) (h1 : evOp T x1 = some (.mp s g, ts1)) (h2 : evOp T x2 = some (yk, ts2)) (h3 : evOp T x3 = some (ev v, ts3)) (hq : ground yk = some (ek q)) (hh : H.lookup s = some (some (g, .map (encM ek ev m))))
    (next:RG P ops n c (k+1) rest (mk T ((s,some (g,.map (encM ek ev (m.set q v))))::H)) (⟨gts++(ts1++ts2++ts3),[s],[s]⟩::fs) K):RG P ops n c k (⟨none,.mapUpdate t x1 x2 x3,ty,pos,aft,gd⟩::rest) (mk T H) fs K:=by
 obtain ⟨ok,K1,K2⟩:=hk.key
 exact rg_mapUpdate K1 hk.inj (gd_of hg) (ev_of h1) (ev_of h2) (ev_of h3) hq (hook_of hh) ht (fun _ _=>K2 _) (K2 _) hev rfl next
theorem rg_insert {ty : Nat} {dst : Option Nat} {pos : String} {aft : Array Edge} {gd : Option (Nat × Bool)} {gts ts1 ts2 ts3 : List Nat} {t kt e : TypeId} {x1 x2 x3 : Operand} {s g : Nat} {κ ν : Type} [DecidableEq κ] {ek : κ → Value} {ev : ν → AV} {m : Mp κ ν} {q : κ} {v : ν} {yk : AV} {ok : Value → Prop} (KP : KeyP P kt ok) (hinj : ∀ a b, ek a = ek b → a = b) (hgd : Gd ops T gd gts)
    (h1:Ev T x1 (.mp s g) ts1) (h2:Ev T x2 yk ts2) (h3:Ev T x3 (ev v) ts3) (hg:ground yk=some (ek q)) (hh:Hook H s g (.map (encM ek ev m))) (ht:mt P t=some (kt,e)) (hok:∀ p∈m.l,ok (ek p.1)) (hk:ok (ek q)) (hev:szOf (ev v)≠none) (hdst:dst=none)
    (next:RG P ops n c (k+1) rest (mk T ((s,some (g,.map (encM ek ev (m.set q v))))::H)) (⟨gts++(ts1++ts2++ts3),[s],[s]⟩::fs) K):RG P ops n c k (⟨dst,.insert t x1 x2 x3,ty,pos,aft,gd⟩::rest) (mk T H) fs K:=by
 subst hdst
 refine rg_core (r:=⟨(gts++(ts1++ts2++ts3)).map fun t=>(t,lookT T t),[(s,g,.map (encM ek ev m))],.any,c+k,[(s,some (g,.map (encM ek ev (m.set q v))))]⟩) hgd rfl (by simpa using hh) rfl ?_ ?_
 ·intro base w0 F G E st a w Q K' hG hp hs hK
  have ho:=hp.reads (s,g,.map (encM ek ev m)) (by simp)
  obtain ⟨hgg,L,hL,hr⟩:=hs.live s g _ ho
  have hop:∀ x z ts,Ev T x z ts→(∀ t∈ts,t∈ts1++ts2++ts3)→VT (cx base F E G w) z (a.eval x):=fun x z ts hx hts=>hs.opd hp (opd_of rfl hx hts)
  obtain ⟨_,r1⟩:=hop x1 _ ts1 h1 (by simp +contextual)
  have e2:=vt_ground hg (hop x2 _ ts2 h2 (by simp +contextual))
  obtain ⟨cs3,l3,v3⟩:=vt_lay hev (hop x3 _ ts3 h3 (by simp +contextual))
  generalize e1:a.eval x1=u at r1
  cases r1 with
  | mp _ _ b hG' hb =>
   obtain ⟨b',es,clock,e3,h4,⟨h5,hbn⟩,h6⟩:=hr
   have hbL:=hb L hL
   rw [hbL] at e3
   cases e3
   have h4:w.heap[b]? = some (.map es clock):=h4
   have hsz:es.size=m.l.length:=by simpa [encM] using h5
   have key : ∃ w' es' clock', (Instr.mapUpdate t (.map (some b)) (ek q) (a.eval x3)).run P w = .ok () w' ∧ w'.heap[b]? = some (.map es' clock') ∧ (∀ b', b' ≠ b → w'.heap[b']? = w.heap[b']?) ∧ Below 0 w w' ∧
       (es'.size=(m.set q v).l.length∧Bn es' clock')∧∀ (i:Nat) p,(m.set q v).l[i]? = some p→∃ en cs,es'[i]? = some en∧en.key=ek p.1∧Lay (ev p.2) en.val cs∧VR (cx base F E G w) (ev p.2) cs:=by
    have hrun : ∀ r : Option (Nat × Value), (Instr.findKey kt (ek q) es.toList).run P w = .ok r w → (Instr.mapUpdate t (.map (some b)) (ek q) (a.eval x3)).run P w =
        (match r with
         | some (i,_)=>(do
          let key ← Instr.keyThatStays (((es[i]?).map fun (x:MapEntry)=>x.key).getD (ek q)) (ek q)
          setObj b (.map (es.modify i fun (e:MapEntry)=>{ e with key,val:=a.eval x3 }) clock):Sem Unit)
         | none=>setObj b (.map (es.push { key:=ek q,val:=a.eval x3,born:=clock }) (clock+1))).run P w:=by
     intro r hr
     unfold Instr.mapUpdate
     rw [run_bind_ok (run_underlying (mt_of ht) w)]
     simp only
     rw [run_bind_ok (getObj_run h4)]
     simp only
     rw [run_bind_ok (KP.check w _ _ hk)]
     rw [run_bind_ok hr]
     cases r <;> rfl
    rcases find_run KP hinj (m:=m) (ev:=ev) (C:=cx base F E G w) hsz (fun i p hp=>h6 i _ (encM_get hp)) hok hk w with ⟨f1,f2,f3⟩ | ⟨j,en,x,cs,f1,f2,f3,f4,f5,f6,f7⟩
    ·obtain ⟨w',k1,k2,k3,k4⟩:=setObj_heap (P:=P) (es':=es.push { key:=ek q,val:=a.eval x3,born:=clock }) (clock':=clock+1) h4
     refine ⟨w',_,_,(hrun _ f1).trans k1,k2,k3,k4,⟨?_,Bn_push hbn⟩,fun i p hp=>?_⟩
     ·simp [Mp.set,Mp.setL,f3,hsz]
     ·simp only [Mp.set,Mp.setL,if_neg f3] at hp
      rcases Nat.lt_or_ge i m.l.length with hi | hi
      ·rw [List.getElem?_append_left hi] at hp
       obtain ⟨en,cs,a1,a2,a3,a4⟩:=h6 i _ (encM_get hp)
       refine ⟨en,cs,?_,a2,a3,a4⟩
       rw [Array.getElem?_push,if_neg (by omega)];exact a1
      ·rw [List.getElem?_append_right hi] at hp
       have h0:i - m.l.length=0:=by
        have:=(List.getElem?_eq_some_iff.1 hp).1
        simp at this;omega
       rw [h0] at hp
       simp at hp
       subst hp
       refine ⟨{ key:=ek q,val:=a.eval x3,born:=clock },cs3,?_,rfl,l3,v3⟩
       rw [Array.getElem?_push,if_pos (by omega)]
    ·have hmem:q∈m.l.map (·.1):=List.mem_map.2 ⟨_,List.mem_of_getElem? f3,rfl⟩
     obtain ⟨w',k1,k2,k3,k4⟩:=setObj_heap (P:=P) (es':=es.modify j fun (e:MapEntry)=>{ e with key:=ek q,val:=a.eval x3 }) (clock':=clock) h4
     refine ⟨w',_,_,(hrun _ f1).trans ?_,k2,k3,k4,⟨?_,Bn_modify hbn⟩,fun i p hp=>?_⟩
     ·simp only [f2,Option.map_some,Option.getD_some,f7]
      rw [run_bind_ok (KP.stays w _ hk)]
      exact k1
     ·simp [Mp.set,Mp.setL,hmem,hsz]
     ·simp only [Mp.set,Mp.setL,if_pos hmem,List.getElem?_map,Option.map_eq_some_iff] at hp
      obtain ⟨p0,hp0,rfl⟩:=hp
      obtain ⟨en',cs',a1,a2,a3,a4⟩:=h6 i _ (encM_get hp0)
      by_cases hij:i=j
      ·subst hij
       rw [f3] at hp0
       cases hp0
       simp only [if_true]
       refine ⟨{ en with key:=ek q,val:=a.eval x3 },cs3,by rw [Array.getElem?_modify,if_pos rfl,f2];rfl,rfl,l3,v3⟩
      ·have hne:p0.1≠q:=by
        intro e
        have i1:(m.l.map (·.1))[i]? = some q:=by simp [hp0,e]
        have i2:(m.l.map (·.1))[j]? = some q:=by simp [f3]
        exact hij ((List.getElem?_inj (List.getElem?_eq_some_iff.1 i1).1 m.nd).1 (i1.trans i2.symm))
       simp only [if_neg hne]
       exact ⟨en',cs',by rw [Array.getElem?_modify,if_neg (fun e=>hij e.symm)];exact a1,a2,a3,a4⟩
   obtain ⟨w',es',clock',k1,k2,k3,k4,⟨k5,kb⟩,k6⟩:=key
   have hexec:(execOp a.eval ⟨none,.insert t x1 x2 x3,ty,pos,aft,gd⟩).run P w = .ok .skip w':=by
    simp only [execOp,e1,e2]
    rw [run_bind_ok k1]
    rfl
   unfold Oper.wp
   rw [hexec]
   refine hK _ _ ⟨E,hs.write (o':=.map (encM ek ev (m.set q v))) ho hL rfl (by simp) k4 (fun b' hb'=>k3 b' (fun e=>hb' (by rw [hbL,e]))) (fun hle=>?_) (fun _=>VT.any _ _)⟩
   refine ⟨b,es',clock',hbL,k2,⟨by simp [encM,k5],kb⟩,fun i p hp=>?_⟩
   simp only [encM,List.getElem?_map,Option.map_eq_some_iff] at hp
   obtain ⟨p0,hp0,rfl⟩:=hp
   obtain ⟨en,cs,a1,a2,a3,a4⟩:=k6 i p0 hp0
   exact ⟨en,cs,a1,a2,a3,a4.mono hle⟩
 ·rw [app_mk0,foot_of]
  exact next
theorem inM {κ ν : Type} [DecidableEq κ] {ek : κ → Value} {ev : ν → AV} {m : Mp κ ν} {q : κ} {v : ν} {t kt e : TypeId} {s g : Nat} {yk : AV} (hk : KeyE P kt ek) (ht : mt P t = some (kt, e)) (hev : szOf (ev v) ≠ none) (hg : gdOp ops T gd = some gts) (h1 : evOp T x1 = some (.mp s g, ts1)) (h2 : evOp T x2 = some (yk, ts2)) (h3 : evOp T x3 = some (ev v, ts3)) (hq : ground yk = some (ek q)) (hh : H.lookup s = some (some (g, .map (encM ek ev m))))
    (next:RG P ops n c (k+1) rest (mk T ((s,some (g,.map (encM ek ev (m.set q v))))::H)) (⟨gts++(ts1++ts2++ts3),[s],[s]⟩::fs) K):RG P ops n c k (⟨none,.insert t x1 x2 x3,ty,pos,aft,gd⟩::rest) (mk T H) fs K:=by
 obtain ⟨ok,K1,K2⟩:=hk.key
 exact rg_insert K1 hk.inj (gd_of hg) (ev_of h1) (ev_of h2) (ev_of h3) hq (hook_of hh) ht (fun _ _=>K2 _) (K2 _) hev rfl next
theorem mlM {κ ν : Type} [DecidableEq κ] {ek : κ → Value} {ev : ν → AV} {m : Mp κ ν} {t kt e : TypeId} {s g : Nat} (ht : mt P t = some (kt, e)) (hg : gdOp ops T gd = some gts) (hx : evOp T x = some (.mp s g, ts)) (hh : H.lookup s = some (some (g, .map (encM ek ev m)))) (hd : Nat.blt d n.n = true)
    (next:RG P ops n c (k+1) rest (mk ((d,.v (.int .i64 (m.len:Int)))::T) H) (⟨gts++ts,[s],[]⟩::fs) K):RG P ops n c k (⟨some d,.call ⟨.builtin .len,#[x],#[t]⟩,ty,pos,aft,gd⟩::rest) (mk T H) fs K:=rg_mlen (gd_of hg) (ev_of hx) (hook_of hh) ht (lt_ok hd) (by simpa [encM,Mp.len] using next)
theorem mksP {α : Type} {f : α → AV} (z : α) (s : Nat) {t e : TypeId} {sz by_ : Nat} {zs : List Value} {q : Int} {kd : IntKind} {i : Nat} (ht : se P t = some (e, sz, zs, by_)) (hq : q = (i : Int)) (hb : by_ * i ≤ 140737488355328) (hz : f z = zeroA zs) (hby : Nat.blt 0 by_ = true) (hg : gdOp ops T gd = some gts) (h1 : evOp T x1 = some (.v (.int kd q), ts1)) (h2 : evOp T x2 = some (.v (.int kd q), ts2)) (hd : Nat.blt d n.n = true)
    (next:RG P ops n c (k+1) rest (mk ((d,.own s (c+k) sz 0 (List.replicate i z).length false)::T) ((s,some (c+k,.buf sz ((List.replicate i z).map f)))::H)) (⟨gts++(ts1++ts2),[],[s]⟩::fs) K) :
    RG P ops n c k (⟨some d,.makeSlice t x1 x2,ty,pos,aft,gd⟩::rest) (mk T H) fs K:=by
 rw [List.map_replicate,hz,List.length_replicate] at next
 have hby:=lt_ok hby
 have hi:i≤140737488355328:=Nat.le_trans (Nat.le_mul_of_pos_left i hby) hb
 refine rg_new false (rd:=[]) (len:=i) rfl (lt_ok hd) (gd_of hg) (by simp) rfl (fun C a w _ _ hop=>?_) next
 obtain ⟨hu,ii,zz,hii,hzz,hsz,hbb,hzc,hzl,hpos,hall⟩:=se_parts ht
 have e1:=vt_v_eq (hop x1 _ ts1 (ev_of h1) (by simp +contextual))
 have e2:=vt_v_eq (hop x2 _ ts2 (ev_of h2) (by simp +contextual))
 subst hq
 have hbytes:(ii.bytes:Int) * (i:Int)≤281474976710656:=by
  rw [hbb]
  have h:((by_ * i:Nat):Int)≤281474976710656:=by omega
  rwa [Int.natCast_mul] at h
 have hr:=run_make (P:=P) w t e ii zz hu hii hzz kd kd i i (by omega) (Int.le_refl _) hbytes (by omega)
 simp only [Int.toNat_natCast] at hr
 refine ⟨madeCells zz.cells (i * ii.size),e,i,?_,Nat.le_refl _,?_,(List.replicate i zs).flatten,?_,?_⟩
 ·simp only [execOp,e1,e2]
  rw [run_bind_ok hr]
  rfl
 ·rw [size_madeCells,hsz];exact Nat.le_refl _
 ·rw [← hzl];exact Elems.replicate (zeroA_VR (C:=C) hall) i
 ·intro j u hu'
  unfold madeCells
  have hm:=mod_cells (zs:=zs) (by omega) i
  rw [hzl] at hm
  rw [hzc,hsz]
  have:(zs.toArray).size=sz:=by simpa using hzl
  rw [this,hm]
  simpa using hu'
end
end Go.Ar
namespace Go.Ar
open Go.RowKit
section
variable {P : Program} {ops : Array Oper} {n : Nn} {c k : Nat} {rest : List Oper} {T : TL} {H : HL} {fs : List Foot} {K : List Foot → St → Prop}
variable {d ty : Nat} {pos : String} {aft : Array Edge} {gd : Option (Nat × Bool)} {gts ts ts0 ts1 ts2 ts3 : List Nat} {x x1 x2 x3 : Operand} {y y1 y2 : AV}
theorem ng {t : TypeId} {kd : IntKind} {p : Int} (hg : gdOp ops T gd = some gts) (hx : evOp T x = some (.v (.int kd p), ts)) (hd : Nat.blt d n.n = true)
    (next:RG P ops n c (k+1) rest (mk ((d,.v (.int kd (kd.wrap (0 - p))))::T) H) (⟨gts++ts,[],[]⟩::fs) K):RG P ops n c k (⟨some d,.unOp .neg t x,ty,pos,aft,gd⟩::rest) (mk T H) fs K :=
 rg_val rfl (lt_ok hd) (gd_of hg) (fun C a w _ hop _=>by
  have e:=vt_v_eq (hop x _ ts (ev_of hx) fun _ h=>h)
  refine ⟨.int kd (kd.wrap (0 - p)),?_,vt_v rfl⟩
  simp only [execOp,e]
  rfl) next
theorem alA {α : Type} (f : α → AV) (z : α) (m s : Nat) {t : TypeId} {zs : List Value} (hz : zc P t = some zs) (hall : zs.all one = true) (he : zs.map .v = (List.replicate m z).map f) (hg : gdOp ops T gd = some gts) (hd : Nat.blt d n.n = true)
    (next:RG P ops n c (k+1) rest (mk ((d,.ptr s (c+k) 0 0)::T) ((s,some (c+k,.buf 1 ((List.replicate m z).map f)))::H)) (⟨gts++[],[],[s]⟩::fs) K):RG P ops n c k (⟨some d,.alloc t,ty,pos,aft,gd⟩::rest) (mk T H) fs K :=
 rg_alloc (s:=s) (gd_of hg) hz (by rw [← he];exact elems_cells hall) (lt_ok hd) next
theorem ixA {t e : TypeId} {s g sz m i : Nat} {q : Int} {kd : IntKind} {xs : List AV} (ht : ar P t = some (m, e, sz)) (hq : q = (i : Int)) (hi : i < m) (hg : gdOp ops T gd = some gts) (h1 : evOp T x1 = some (.ptr s g 0 0, ts1)) (h2 : evOp T x2 = some (.v (.int kd q), ts2)) (hh : H.lookup s = some (some (g, .buf sz xs))) (hd : Nat.blt d n.n = true)
    (next:RG P ops n c (k+1) rest (mk ((d,.ptr s g i 0)::T) H) (⟨gts++(ts1++ts2),[s],[]⟩::fs) K):RG P ops n c k (⟨some d,.indexAddr t x1 x2,ty,pos,aft,gd⟩::rest) (mk T H) fs K :=
 rg_bindex (gd_of hg) (ev_of h1) (ev_of h2) (hook_of hh) ht hq hi (lt_ok hd) (by simpa using next)
theorem slA {t e : TypeId} {s g sz m h : Nat} {q : Int} {kd : IntKind} {xs : List AV} (ht : ar P t = some (m, e, sz)) (hxl : xs.length = m) (hq : q = (h : Int)) (hh' : h ≤ m) (hg : gdOp ops T gd = some gts) (hx : evOp T x = some (.ptr s g 0 0, ts)) (h2 : evOp T x2 = some (.v (.int kd q), ts2)) (hh : H.lookup s = some (some (g, .buf sz xs))) (hd : Nat.blt d n.n = true)
    (next:RG P ops n c (k+1) rest (mk ((d,.own s g sz 0 h false)::T) H) (⟨gts++(ts++[]++ts2),[s],[]⟩::fs) K):RG P ops n c k (⟨some d,.slice t x none (some x2) none,ty,pos,aft,gd⟩::rest) (mk T H) fs K :=
 rg_aslice (gd_of hg) (ev_of hx) .none (.some _ _ _ _ h (ev_of h2) hq) (hook_of hh) hxl ht (Nat.zero_le _) hh' (lt_ok hd) (by simpa using next)
theorem vr_elem {C:Cx}{α:Type}{f:α→AV}{l:List α}{i:Nat}{v:α} (hv:l[i]? = some v) {cs:List Value} (h:VR C (.agg (l.map f)) cs):∃ c,cs[i]? = some c∧one c=true∧VR C (f v) [c]∧flat (f v)=true:=by
 cases h with
 | agg _ _ h1 h2 h3 h4 =>
  have hi:i < cs.length:=by have:=(List.getElem?_eq_some_iff.1 hv).1;simp at h1;omega
  have hf:(l.map f)[i]? = some (f v):=by simp [hv]
  exact ⟨cs[i],List.getElem?_eq_getElem hi,h2 _ (List.getElem_mem hi),h4 i _ hf _ (List.getElem?_eq_getElem hi),h3 _ (List.mem_of_getElem? hf)⟩
theorem ixV {α : Type} {f : α → AV} {l : List α} {t e : TypeId} {m i : Nat} {q : Int} {kd : IntKind} {v : α} (ht : ar P t = some (m, e, 1)) (hs : (tk P e) = some (false, 1)) (hq : q = (i : Int)) (hi : i < m) (hv : l[i]? = some v) (hsz : szOf (f v) = some 1) (hg : gdOp ops T gd = some gts) (h1 : evOp T x1 = some (.agg (l.map f), ts1)) (h2 : evOp T x2 = some (.v (.int kd q), ts2)) (hd : Nat.blt d n.n = true)
    (next:RG P ops n c (k+1) rest (mk ((d,f v)::T) H) (⟨gts++(ts1++ts2),[],[]⟩::fs) K):RG P ops n c k (⟨some d,.index t x1 x2,ty,pos,aft,gd⟩::rest) (mk T H) fs K :=
 rg_val rfl (lt_ok hd) (gd_of hg) (fun C a w _ hop _=>by
  obtain ⟨cs,e1,r1⟩:=hop x1 _ ts1 (ev_of h1) (by simp +contextual)
  have e2:=vt_v_eq (hop x2 _ ts2 (ev_of h2) (by simp +contextual))
  obtain ⟨u,k1,k2,k3,k4⟩:=vr_elem hv r1
  refine ⟨u,?_,vt_of k4 k2 k3⟩
  have hpart:(part e cs.toArray (i * 1)).run P w = .ok u w:=by
   unfold part
   rw [run_bind_ok (tk_parts hs w).1]
   simp [k1,pure,Sem.run]
  have hrun:(Instr.index t (.agg cs.toArray) (.int kd (i:Int))).run P w = .ok u w:=by
   unfold Instr.index
   rw [run_bind_ok (v:=(kd,(i:Int))) (w':=w) rfl]
   simp only
   rw [run_bind_ok (ar_parts ht w).1]
   simp only
   rw [if_pos ⟨by omega,by omega⟩,run_bind_ok (ar_parts ht w).2]
   simpa using hpart
  simp only [execOp,e1,e2,hq]
  rw [run_bind_ok hrun]
  rfl) next
theorem ixS {l : List Int} {t : TypeId} {i : Nat} {q : Int} {kd : IntKind} {v : Int} {s : ByteArray} (ht : P.underlying t = some .string) (hq : q = (i : Int)) (hv : l[i]? = some v) (hs : s.data.toList.map (fun b => (b.toNat : Int)) = l) (hg : gdOp ops T gd = some gts) (h2 : evOp T x2 = some (.v (.int kd q), ts2)) (hd : Nat.blt d n.n = true)
    (next:RG P ops n c (k+1) rest (mk ((d,.v (.int .u8 v))::T) H) (⟨gts++ts2,[],[]⟩::fs) K):RG P ops n c k (⟨some d,.index t (.const (.string s)) x2,ty,pos,aft,gd⟩::rest) (mk T H) fs K :=
 rg_val rfl (lt_ok hd) (gd_of hg) (fun C a w _ hop _=>by
  have e2:=vt_v_eq (hop x2 _ ts2 (ev_of h2) (by simp +contextual))
  refine ⟨.int .u8 v,?_,vt_v rfl⟩
  have hb:∃ b:UInt8,s[i]? = some b∧(b.toNat:Int)=v:=by
   subst hs
   rw [List.getElem?_map] at hv
   obtain ⟨b,hb,e⟩:=Option.map_eq_some_iff.1 hv
   refine ⟨b,?_,e⟩
   obtain ⟨h1,h2⟩:=List.getElem?_eq_some_iff.1 hb
   have h1':i < s.size:=h1
   rw [getElem?_pos s i h1']
   rw [← h2]
   rfl
  obtain ⟨b,hb,e⟩:=hb
  have hrun:(Instr.index t (.string s) (.int kd (i:Int))).run P w = .ok (.int .u8 v) w:=by
   unfold Instr.index
   rw [run_bind_ok (v:=(kd,(i:Int))) (w':=w) rfl]
   simp only
   rw [run_bind_ok (run_underlying ht w)]
   simp only
   rw [if_pos (Int.natCast_nonneg i)]
   have hb':s[(i:Int).toNat]? = some b:=hb
   rw [hb',← e]
   rfl
  have e1:a.eval (.const (.string s)) = .string s:=rfl
  simp only [execOp,e1,e2,hq]
  rw [run_bind_ok hrun]
  rfl) next
theorem ixG {α : Type} {f : α → AV} {l : List α} {t e : TypeId} {gv m i : Nat} {q : Int} {kd : IntKind} {cs : Array Value} {tt : TypeId} {v : α} (hgl : (gv, cs, tt) ∈ n.gl) (hcs : cs.toList.all one = true) (hl : cs.toList.map .v = l.map f) (ht : ar P t = some (m, e, 1)) (hq : q = (i : Int)) (hi : i < m) (hv : l[i]? = some v) (hg : gdOp ops T gd = some gts) (h2 : evOp T x2 = some (.v (.int kd q), ts2)) (hd : Nat.blt d n.n = true)
    (next:RG P ops n c (k+1) rest (mk ((d,.fptr (f v) 0)::T) H) (⟨gts++ts2,[],[]⟩::fs) K):RG P ops n c k (⟨some d,.indexAddr t (.global gv) x2,ty,pos,aft,gd⟩::rest) (mk T H) fs K:=by
 have hgd:=gd_of hg
 have h2:=ev_of h2
 have hd:=lt_ok hd
 refine rg_core (r:=⟨(gts++ts2).map fun t=>(t,lookT T t),[],.fptr (f v) 0,c+k,[]⟩) hgd rfl (by simp) rfl ?_ ?_
 ·intro base w0 F G E st a w Q K' hG hp hs hK
  have e2:=vt_v_eq (hs.opd hp (opd_of (tl:=ts2) rfl h2 fun _ h=>h))
  obtain ⟨k1,_,k2⟩:=hs.glob _ hgl
  obtain ⟨k3,k4⟩:=hs.old _ k1
  have k5:=(hs.keep _ k3 k4).trans k2
  unfold Oper.wp
  have hrun:(execOp a.eval ⟨some d,.indexAddr t (.global gv) x2,ty,pos,aft,gd⟩).run P w = .ok (.value (.pointer (some ((⟨gv,0,none⟩:Addr).add (i * 1))))) w:=by
   have e3:a.eval (.global gv) = .pointer (some ⟨gv,0,none⟩):=rfl
   simp only [execOp,e2,e3,hq]
   rw [run_bind_ok (aindex_run (ad:=⟨gv,0,none⟩) ht hi w)]
   rfl
  rw [hrun]
  have hz:VR (cx base F E G w) (.agg (l.map f)) cs.toList:=by rw [← hl];exact zero_VR hcs
  obtain ⟨u,q1,q2,q3,q4⟩:=vr_elem hv hz
  refine hK _ _ ⟨E,hs.put rfl (by intro d' e;cases e;exact hd) ⟨rfl,?_⟩⟩
  have hadd:(⟨gv,0,none⟩:Addr).add (i * 1)=((⟨gv,0,none⟩:Addr).add (i * 1)).add 0:=by simp [add_mk]
  rw [hadd]
  refine .fptr _ _ _ [u] q3 (by rw [add_mk]) ?_ ?_
  ·rw [add_mk]
   refine ⟨Nat.lt_of_lt_of_le k3 hs.bsz,?_,.inr (.inr ⟨rfl,k1⟩)⟩
   rintro ⟨s,g,L,e1,e2⟩
   rcases (hs.far _ _ _ _ e1 e2).1 with h | h
   ·exact absurd k3 (Nat.not_lt.2 h)
   ·exact k4 h
  ·intro j u' hu
   cases j with
   | succ j=>simp at hu
   | zero =>
    simp at hu
    subst hu
    show w.cell? _=_
    rw [add_mk,add_mk,block_cell k5]
    simpa using q1
 ·rw [app_mk,foot_of]
  exact next
theorem clo {α : Type} {g1 : α → AV} {l l' : List α} {s g sz : Nat} {f : FuncId} {args : List Operand} {at_ : Array TypeId} {asx ys : List AV} {dst : Option Nat} (hdoes : Does P n.gl f [.buf sz (l.map g1)] ys [0] [.buf sz (l'.map g1)] y) (hc : callable P f = true) (hg : gdOp ops T gd = some gts) (ha : evOps T args = some (asx, ts)) (hh : H.lookup s = some (some (g, .buf sz (l.map g1)))) (hp : ∀ a, Pu (g1 a)) (hargs : RnL [((s, g), (0, 0))] [] asx ys) (hpy : PuT y) (hd : ∀ d, dst = some d → d < n.n)
    (next:RG P ops n c (k+1) rest ((mk T H).app dst ⟨(gts++([]++ts)).map fun t=>(t,lookT T t),[(s,g,.buf sz (l.map g1))],y,c+k,[(s,some (g,.buf sz (l'.map g1)))]⟩) (⟨gts++([]++ts),[s],[s]⟩::fs) K) :
    RG P ops n c k (⟨dst,.call ⟨.value (.func f),args.toArray,at_⟩,ty,pos,aft,gd⟩::rest) (mk T H) fs K :=
 rg_call_core (first:=[]) (caps:=[]) (ts0:=[]) (os:=[.buf sz (l.map g1)]) (os':=[.buf sz (l'.map g1)]) (os2:=[.buf sz (l'.map g1)]) (pins:=[0]) (inp:=[(s,g,.buf sz (l.map g1))]) (Z:=[]) (nm:=[(s,g)]) (es:=[(s,some (g,.buf sz (l'.map g1)))])
  hdoes (gd_of hg) (.func f) (evL_of ha) hc ⟨rfl,rfl⟩ (by simpa using hook_of hh) (by simp) (by simp) (by simp)
  (.cons _ _ _ _ (.buf _ _ _ rfl fun i x y hx hy=>by rw [hx] at hy;cases hy;exact .pu _ (pu_map hp l x (List.mem_of_getElem? hx))) .nil) (by simpa [sgOf] using hargs)
  ⟨rfl,rfl,by simp,by simp,by
   intro i q hq
   cases i with
   | zero=>simp at hq;subst hq;exact .inr ⟨by simp,_,rfl,rfl⟩
   | succ i=>simp at hq,by
   intro i o o2 ho ho2
   cases i with
   | zero =>
    simp at ho ho2
    subst ho;subst ho2
    exact .buf _ _ _ rfl fun i x y hx hy=>by rw [hx] at hy;cases hy;exact .pu _ (pu_map hp l' x (List.mem_of_getElem? hx))
   | succ i=>simp at ho⟩ hpy.rn (by simp [callEffs]) hd (by simpa using next)
end
end Go.Ar
namespace Go.Ar
open Go.RowKit
theorem rnOwn {σ:Sel}{Z:List (Nat × Nat × Ob)}{s g s' g' sz off len len':Nat}{cl:Bool} (h:((s,g),(s',g'))∈σ) (hl:len=len'):Rn σ Z (.own s g sz off len cl) (.own s' g' sz off len' cl):=by subst hl;exact .own _ _ _ _ _ _ _ _ h
def guP {β:Type} (c:Prop) [Decidable c] (k:Option β):Option β:=if c then k else none
theorem guI {β:Type}{c:Prop} [Decidable c] {k:Option β}{y:β} (h:guP c k=some y):c∧k=some y:=by
 unfold guP at h
 split at h
 ·exact ⟨by assumption,h⟩
 ·cases h
def lenP {α β:Type} (l l':List α) (k:Option β):Option β:=if l'.length=l.length then k else none
theorem lenI {α β:Type}{l l':List α}{k:Option β}{y:β} (h:lenP l l' k=some y):l'.length=l.length∧k=some y:=by
 unfold lenP at h
 split at h
 ·exact ⟨by assumption,h⟩
 ·cases h
section
variable {P : Program} {fn : Func} {X : Run} {cl : Nat} {T : TL} {H : HL}
theorem hand1 {α:Type}{g1:α→AV}{l:List α}{sz:Nat} (hh:H.lookup 0=some (some (0,.buf sz (l.map g1)))) (hp:∀ a,Pu (g1 a)):Hand H [((0,0),(0,0))] [] [.buf sz (l.map g1)] :=
 ⟨rfl,by
  intro i p o h1 h2
  cases i with
  | zero =>
   simp at h1 h2
   subst h1;subst h2
   exact ⟨rfl,_,hook_of hh,.buf _ _ _ rfl fun i x y hx hy=>by rw [hx] at hy;cases hy;exact .pu _ (pu_map hp l x (List.mem_of_getElem? hx))⟩
  | succ i=>simp at h1,by simp,by simp⟩
theorem outO0 {α:Type}{g1:α→AV}{l:List α}{sz:Nat}{e:Exit} (hr:fn.results = #[]) (he:e = .ret∨e = .normal) (hh:H.lookup 0=some (some (0,.buf sz (l.map g1)))) (hp:∀ a,Pu (g1 a)):At X cl (mk T H) (Out P fn X [0] [.buf sz (l.map g1)] (.tup []) e) :=
 at_outs (rs:=[]) (res0 hr) (by simp) .nil (hand1 hh hp) (by simp) (.tup _ _ rfl (by simp)) e he (by simp)
theorem outO1 {α:Type}{g1:α→AV}{l:List α}{sz r:Nat}{x:AV}{e:Exit} (hr:fn.results = #[.tmp r]) (he:e = .ret∨e = .normal) (hl:T.lookup r=some x) (hx:Pu x) (hh:H.lookup 0=some (some (0,.buf sz (l.map g1)))) (hp:∀ a,Pu (g1 a)):At X cl (mk T H) (Out P fn X [0] [.buf sz (l.map g1)] x e) :=
 at_out1 hr (look_of hl) (hand1 hh hp) (by simp) (.one _ _ (.pu _ hx)) e he
end
section
variable {P : Program} {ops : Array Oper} {n : Nn} {c k : Nat} {rest : List Oper} {T : TL} {H : HL} {fs : List Foot} {K : List Foot → St → Prop}
variable {d ty : Nat} {pos : String} {aft : Array Edge} {gd : Option (Nat × Bool)} {gts ts ts0 ts1 ts2 ts3 : List Nat} {x x1 x2 x3 : Operand} {y y1 y2 : AV}
theorem clo1 {α : Type} {g1 : α → AV} {l l' : List α} {s g sz : Nat} {f : FuncId} {args : List Operand} {at_ : Array TypeId} {asx ys : List AV} (hdoes : Does P n.gl f [.buf sz (l.map g1)] ys [0] [.buf sz (l'.map g1)] y) (hc : callable P f = true) (hh : H.lookup s = some (some (g, .buf sz (l.map g1)))) (hpy : PuT y) (hg : gdOp ops T gd = some gts) (ha : evOps T args = some (asx, ts)) (hp : ∀ a, Pu (g1 a)) (hargs : RnL [((s, g), (0, 0))] [] asx ys) (hd : Nat.blt d n.n = true)
    (next:RG P ops n c (k+1) rest (mk ((d,y)::T) ((s,some (g,.buf sz (l'.map g1)))::H)) (⟨gts++([]++ts),[s],[s]⟩::fs) K) :
    RG P ops n c k (⟨some d,.call ⟨.value (.func f),args.toArray,at_⟩,ty,pos,aft,gd⟩::rest) (mk T H) fs K :=
 clo hdoes hc hg ha hh hp hargs hpy (by intro d' e;cases e;exact lt_ok hd) (by rw [app_mk];exact next)
end
end Go.Ar
namespace Go.Ar
open Go.RowKit
theorem lend {P:Program}{gl:List (Nat × Array Value × TypeId)}{f:FuncId}{o:Ob}{xs xs1:List AV}{y:AV} (h:Does P gl f [] xs1 [] [] y) (hx:RnL [] [(0,0,o)] xs xs1) (hy:∀ C C' v,VT C y v→VT C' y v):Does P gl f [o] xs [0] [o] y:=by
 intro F E w vs hH hlen hv
 have hs:SimE ⟨0,gl⟩ w.heap.size w { F with E0:=fun s=>E s 0 } (· < 1) E (mk [] (objs 0 [o])) e0 w:=hH
 have ho:(mk [] (objs 0 [o])).obj 0 0=some o:=by rw [objs_obj];rfl
 obtain ⟨k1,k2⟩:=HandS.held (inp:=[]) (Z:=[(0,0,o)]) (os:=[]) ⟨rfl,by simp,by simp,by simp,by simpa using ho⟩ hs
 obtain ⟨e1,e2⟩:=hx.get
 refine Calls.mono (h _ _ w vs k1 (by omega) ?_) ?_
 ·intro i x' hx' v hv'
  have hi:i < xs.length:=by have:=(List.getElem?_eq_some_iff.1 hx').1;omega
  have hxi:xs[i]? = some xs[i]:=List.getElem?_eq_getElem hi
  exact (RnT.one _ _ (e2 i _ _ hxi hx')).vt k2 (hv i _ hxi v hv')
 ·intro e w' hh
  cases e with
  | returned v =>
   obtain ⟨E1,h1,_,h3⟩:=hh
   have h1:SimE ⟨0,gl⟩ w.heap.size w _ (· < 1) E1 (mk [] (objs 0 [])) e0 w':=h1
   have hkeep:∀ b,b < w.heap.size→w'.heap[b]? = w.heap[b]?:=by
    intro b hb
    refine h1.keep b hb ?_
    rintro ⟨p,hp,_⟩
    simp [sgOf] at hp
   have hle:(cx w.heap.size F E (· < 1) w).Le (cx w.heap.size F E (· < 1) w'):=by
    refine ⟨fun _ _ _ _ h=>h,fun _ h=>h,fun nw b hB=>⟨⟨Nat.lt_of_lt_of_le hB.1 h1.bsz,hB.2⟩,hkeep b hB.1⟩⟩
   refine ⟨E,?_,fun _ _ _ h=>h,hy _ _ _ h3⟩
   refine ⟨hs.defers,hs.size,hs.glob,h1.below,fun b hb _=>hkeep b hb,hs.old,h1.bsz,hs.dead,?_,fun s g L b h2 h4=>⟨(hs.far s g L b h2 h4).1,Nat.lt_of_lt_of_le (hs.far s g L b h2 h4).2 h1.bsz⟩,hs.inj,hs.g0,hs.init,fun t=>VT.any _ _⟩
   intro s g o' ho'
   obtain ⟨q1,L,q2,q3⟩:=hs.live s g o' ho'
   exact ⟨q1,L,q2,q3.mono hle fun b hb=>hkeep b (hs.far s g L b q2 hb).2⟩
  | _=>exact hh
theorem sc_v {x:Value}:∀ C C' v,VT C (.v x) v→VT C' (.v x) v:=by
 intro C C' v h
 obtain ⟨h1,h2⟩:=h
 cases h2
 exact ⟨h1,.v _ h1⟩
section
variable {P : Program} {ops : Array Oper} {n : Nn} {c k : Nat} {rest : List Oper} {T : TL} {H : HL} {fs : List Foot} {K : List Foot → St → Prop}
variable {d ty : Nat} {pos : String} {aft : Array Edge} {gd : Option (Nat × Bool)} {gts ts ts0 ts1 ts2 ts3 : List Nat} {x x1 x2 x3 : Operand} {y y1 y2 : AV}
theorem eqnil_run {P:Program}{t e:TypeId}{A:Addr}{m cap:Nat} (ht:P.underlying t=some (.slice e)) (w:World):(binOp .eql t (.slice (some A) m cap) (.slice none 0 0)).run P w = .ok (.bool false) w:=by
 have e:(Op.equal t (.slice (some A) m cap) (.slice none 0 0)).run P w = .ok false w:=by
  unfold Op.equal Op.maxDepth
  unfold Op.equalIn
  rw [run_bind_ok (run_underlying ht w)]
  rfl
 simp only [binOp]
 rw [run_bind_ok e];rfl
theorem eqnil_guard {P:Program}{t:TypeId}{x1 x2:Operand}{A:Option Addr}{m cap:Nat} (w:World):(eqGuard .eql t x1 x2 (.slice A m cap) (.slice none 0 0)).run P w = .ok () w:=by
 simp [eqGuard,pure,Sem.run]
theorem eqN {α : Type} {f : α → AV} {l : List α} {t t' : TypeId} {e sz0 : Nat} {nw : Bool} {sz : Nat} (ht : sl P t = some (e, sz0)) (hl : 0 < l.length) (hg : gdOp ops T gd = some gts) (h1 : evOp T x1 = some (.lst nw sz (l.map f), ts1)) (hd : Nat.blt d n.n = true)
    (next:RG P ops n c (k+1) rest (mk ((d,.v (.bool false))::T) H) (⟨gts++ts1,[],[]⟩::fs) K):RG P ops n c k (⟨some d,.binOp .eql t x1 (.const (.slice none 0 0)) t',ty,pos,aft,gd⟩::rest) (mk T H) fs K :=
 rg_val rfl (lt_ok hd) (gd_of hg) (fun C a w _ hop _=>by
  obtain ⟨_,r1⟩:=hop x1 _ ts1 (ev_of h1) (by simp)
  have e2:a.eval (.const (.slice none 0 0)) = .slice none 0 0:=rfl
  generalize e1:a.eval x1=u at r1
  cases r1 with
  | lst _ _ _ A cap cells k1 k2 k3 k4 =>
   obtain ⟨ad,e3,_⟩:=k4 0 (by simpa using hl)
   subst e3
   refine ⟨.bool false,?_,vt_v rfl⟩
   simp only [execOp,e1,e2]
   rw [run_bind_ok (v:=Value.bool false) (w':=w)]
   ·rfl
   ·rw [run_bind_ok (eqnil_guard w)]
    exact eqnil_run (sl_parts ht w).1 w) next
theorem eqNo {t t' : TypeId} {e sz0 : Nat} {s g sz off len : Nat} {cl : Bool} (ht : sl P t = some (e, sz0)) (hl : 0 < len) (hg : gdOp ops T gd = some gts) (h1 : evOp T x1 = some (.own s g sz off len cl, ts1)) (hd : Nat.blt d n.n = true)
    (next:RG P ops n c (k+1) rest (mk ((d,.v (.bool false))::T) H) (⟨gts++ts1,[],[]⟩::fs) K):RG P ops n c k (⟨some d,.binOp .eql t x1 (.const (.slice none 0 0)) t',ty,pos,aft,gd⟩::rest) (mk T H) fs K :=
 rg_val rfl (lt_ok hd) (gd_of hg) (fun C a w _ hop _=>by
  obtain ⟨_,r1⟩:=hop x1 _ ts1 (ev_of h1) (by simp)
  have e2:a.eval (.const (.slice none 0 0)) = .slice none 0 0:=rfl
  generalize e1:a.eval x1=u at r1
  cases r1 with
  | own _ _ _ _ _ _ A cap k1 k2 k3 k4 =>
   obtain ⟨b,p,e3,_⟩:=k4 (by omega)
   subst e3
   refine ⟨.bool false,?_,vt_v rfl⟩
   simp only [execOp,e1,e2]
   rw [run_bind_ok (v:=Value.bool false) (w':=w)]
   ·rfl
   ·rw [run_bind_ok (eqnil_guard w)]
    exact eqnil_run (sl_parts ht w).1 w) next
end
end Go.Ar
namespace Go.Ar
open Go.RowKit
section
variable {P : Program} {ops : Array Oper} {n : Nn} {c k : Nat} {rest : List Oper} {T : TL} {H : HL} {fs : List Foot} {K : List Foot → St → Prop}
variable {d ty : Nat} {pos : String} {aft : Array Edge} {gd : Option (Nat × Bool)} {gts ts ts0 ts1 ts2 ts3 : List Nat} {x x1 x2 x3 : Operand} {y y1 y2 : AV}
theorem zeroCells_len (z:Array Value) (m:Nat):(Builtin.zeroCells z m).size=m * z.size:=by simp [Builtin.zeroCells]
theorem clr {t e : TypeId} {s g sz by_ off len : Nat} {zs : List Value} {cl : Bool} {xs : List AV} (ht : se P t = some (e, sz, zs, by_)) (hle : off + len ≤ xs.length) (hg : gdOp ops T gd = some gts) (h1 : evOp T x1 = some (.own s g sz off len cl, ts1)) (hh : H.lookup s = some (some (g, .buf sz xs)))
    (next:RG P ops n c (k+1) rest (mk T ((s,some (g,.buf sz (xs.take off)))::H)) (⟨gts++ts1,[s],[s]⟩::fs) K):RG P ops n c k (⟨none,.call ⟨.builtin .clear,#[x1],#[t]⟩,ty,pos,aft,gd⟩::rest) (mk T H) fs K:=by
 refine rg_core (r:=⟨(gts++ts1).map fun t=>(t,lookT T t),[(s,g,.buf sz xs)],.any,c+k,[(s,some (g,.buf sz (xs.take off)))]⟩) (gd_of hg) rfl (by simpa using hook_of hh) rfl ?_ ?_
 ·intro base w0 F G E st a w Q K' hG hp hs hK
  have ho:=hp.reads (s,g,.buf sz xs) (by simp)
  obtain ⟨hgg,L,hL,hr⟩:=hs.live s g _ ho
  obtain ⟨_,r1⟩:=hs.opd hp (opd_of rfl (ev_of h1) fun t ht=>ht)
  obtain ⟨hu,ii,zz,hii,hzz,hsz,hbb,hzc,hzl,hpos,hall⟩:=se_parts ht
  have hcut:∀ C,ObR C L (.buf sz xs)→ObR C L (.buf sz (xs.take off)):=by
   intro C hr
   obtain ⟨q1,q2⟩:=hr
   refine ⟨q1,?_⟩
   revert q2
   cases L.blk with
   | none=>intro q2;have q2:xs=[]:=q2;subst q2;show List.take off []=[];simp
   | some b =>
    rintro ⟨arr,t,a1,a2,a3,a4⟩
    refine ⟨arr,t,a1,a2,Nat.le_trans (Nat.mul_le_mul_right _ (by simp;omega)) a3,fun j x hx=>?_⟩
    rw [List.getElem?_take] at hx
    split at hx
    ·exact a4 j x hx
    ·cases hx
  generalize e1:a.eval x1=u at r1
  cases r1 with
  | own _ _ _ _ _ _ A cap k1 k2 k3 k4 =>
   by_cases h0:len=0
   ·have hrun:(Builtin.clear_ #[t] ty #[Value.slice A len cap]).run P w = .ok (.tuple #[]) w:=by
     unfold Builtin.clear_
     simp only [List.getElem?_toArray,List.getElem?_cons_zero]
     rw [run_bind_ok (run_underlying hu w)]
     subst h0
     cases A <;> rfl
    unfold Oper.wp
    have hex:(execOp a.eval ⟨none,.call ⟨.builtin .clear,#[x1],#[t]⟩,ty,pos,aft,gd⟩).run P w = .ok (.value (.tuple #[])) w :=
     call_run (xs:=[x1]) rfl rfl (fun consts=>by simp only [List.map_cons,List.map_nil,e1];unfold builtin;simp only;rw [run_bind_ok hrun];rfl)
    rw [hex]
    exact hK _ _ ⟨E,hs.write (dst:=none) (v:=.tuple #[]) ho hL rfl (by simp) (Below.refl _ _) (fun _ _=>rfl) (fun hle'=>hcut _ (hr.mono hle' fun _ _=>rfl)) (fun _=>VT.any _ _)⟩
   ·obtain ⟨b,p,rfl,hbL⟩:=k4 (by omega)
    obtain ⟨b1,b2,b3,b4⟩:=hbL L hL
    subst b3
    obtain ⟨hsz',arr,tt,hblk,hroom,hle2,hel⟩:=ob_elems hr b1
    have hzs:(Builtin.zeroCells zz.cells len).size=len * sz:=by rw [zeroCells_len,hzc];simp [hzl]
    have hv4:∀ v∈(Builtin.zeroCells zz.cells len).toList,one v=true:=by
     intro v hv
     rw [hzc] at hv
     simp only [Builtin.zeroCells,Array.toList_map,List.mem_map] at hv
     obtain ⟨q,_,rfl⟩:=hv
     have hq:q % zs.toArray.size < zs.toArray.size:=Nat.mod_lt _ (by simp;omega)
     rw [getElem!_pos zs.toArray _ hq]
     exact List.all_eq_true.1 hall _ (by simp)
    have hfit:(off+len) * sz≤arr.size:=Nat.le_trans (Nat.mul_le_mul_right _ hle) hle2
    rw [Nat.add_mul] at hfit
    obtain ⟨w',arr',hrun,hb',hs',hj,hn,hbl⟩:=storeCells_run (P:=P) (b:=b) (o:=off * sz) (Builtin.zeroCells zz.cells len).toList 0 w arr hblk hv4 (by
     have:(Builtin.zeroCells zz.cells len).toList.length=len * sz:=by rw [Array.length_toList,hzs]
     omega)
    have hzero:(zeroValue e).run P w = .ok zz w:=by unfold zeroValue typeInfo;simp [Go.program,bind,Sem.bind,Sem.run,hii,hzz,pure]
    have hrun2:(Builtin.clear_ #[t] ty #[Value.slice (some ⟨b,off * sz,none⟩) len cap]).run P w = .ok (.tuple #[]) w':=by
     unfold Builtin.clear_
     simp only [List.getElem?_toArray,List.getElem?_cons_zero]
     rw [run_bind_ok (run_underlying hu w)]
     obtain ⟨m,rfl⟩:∃ m,len=m+1:=⟨len - 1,by omega⟩
     simp only
     rw [run_bind_ok hzero,run_bind_ok hrun]
     rfl
    unfold Oper.wp
    have hex:(execOp a.eval ⟨none,.call ⟨.builtin .clear,#[x1],#[t]⟩,ty,pos,aft,gd⟩).run P w = .ok (.value (.tuple #[])) w' :=
     call_run (xs:=[x1]) rfl rfl (fun consts=>by simp only [List.map_cons,List.map_nil,e1];unfold builtin;simp only;rw [run_bind_ok hrun2];rfl)
    rw [hex]
    refine hK _ _ ⟨E,hs.write (dst:=none) (v:=.tuple #[]) (o':=.buf sz (xs.take off)) ho hL rfl (by simp) (hbl.mono (Nat.zero_le _)) (fun b' hb''=>hn b' (fun e=>hb'' (by rw [b1,e]))) ?_ (fun _=>VT.any _ _)⟩
    intro hle'
    refine ⟨hsz',?_⟩
    rw [b1]
    refine ⟨arr',tt,hb',by rw [hs',hroom],by rw [hs'];exact Nat.le_trans (Nat.mul_le_mul_right _ (by simp;omega)) hle2,fun j x hx=>?_⟩
    rw [List.getElem?_take] at hx
    split at hx
    ·rename_i hjo
     obtain ⟨cs2,d1,d2,d3⟩:=hel.each j x hx
     refine ⟨cs2,d1,d2.mono hle',fun q u hq=>?_⟩
     have hql:q < sz:=by have:=(List.getElem?_eq_some_iff.1 hq).1;omega
     have hrow:j * sz+sz≤off * sz:=by
      have:=Nat.mul_le_mul_right sz (show j+1≤off from hjo)
      rwa [Nat.add_mul,Nat.one_mul] at this
     rw [hj,if_neg (by omega)]
     have:=d3 q u hq
     rw [List.getElem?_take] at this
     split at this
     ·simpa using this
     ·cases this
    ·cases hx
 ·rw [app_mk0,foot_of]
  exact next
theorem sloB {t e : TypeId} {s g sz len i : Nat} {q : Int} {kd : IntKind} {cl : Bool} (ht : sl P t = some (e, sz)) (hq : q = (i : Int)) (hi : i ≤ len) (hg : gdOp ops T gd = some gts) (hx : evOp T x = some (.own s g sz 0 len cl, ts)) (h2 : evOp T x2 = some (.v (.int kd q), ts2)) (hd : Nat.blt d n.n = true)
    (next:RG P ops n c (k+1) rest (mk ((d,.own s g sz i (len - i) false)::T) H) (⟨gts++(ts++ts2++[]),[],[]⟩::fs) K):RG P ops n c k (⟨some d,.slice t x (some x2) none none,ty,pos,aft,gd⟩::rest) (mk T H) fs K :=
 rg_slice (cl':=false) (gd_of hg) (ev_of hx) (.some _ _ _ _ i (ev_of h2) hq) .none ht hi (Nat.le_refl _) (fun h=>nomatch h) (lt_ok hd) (by simpa using next)
theorem sloF {t e : TypeId} {s g sz len i : Nat} {q : Int} {kd : IntKind} {cl : Bool} (ht : sl P t = some (e, sz)) (hq : q = (i : Int)) (hi : i ≤ len) (hg : gdOp ops T gd = some gts) (hx : evOp T x = some (.own s g sz 0 len cl, ts)) (h2 : evOp T x2 = some (.v (.int kd q), ts2)) (hd : Nat.blt d n.n = true)
    (next:RG P ops n c (k+1) rest (mk ((d,.own s g sz 0 i false)::T) H) (⟨gts++(ts++[]++ts2),[],[]⟩::fs) K):RG P ops n c k (⟨some d,.slice t x none (some x2) none,ty,pos,aft,gd⟩::rest) (mk T H) fs K :=
 rg_slice (cl':=false) (gd_of hg) (ev_of hx) .none (.some _ _ _ _ i (ev_of h2) hq) ht (Nat.zero_le _) hi (fun h=>nomatch h) (lt_ok hd) (by simpa using next)
theorem clrP {α : Type} {f : α → AV} {l : List α} {t e : TypeId} {s g sz by_ off len : Nat} {zs : List Value} {cl : Bool} (ht : se P t = some (e, sz, zs, by_)) (hle : off + len ≤ l.length) (hg : gdOp ops T gd = some gts) (h1 : evOp T x1 = some (.own s g sz off len cl, ts1)) (hh : H.lookup s = some (some (g, .buf sz (l.map f))))
    (next:RG P ops n c (k+1) rest (mk T ((s,some (g,.buf sz ((l.take off).map f)))::H)) (⟨gts++ts1,[s],[s]⟩::fs) K):RG P ops n c k (⟨none,.call ⟨.builtin .clear,#[x1],#[t]⟩,ty,pos,aft,gd⟩::rest) (mk T H) fs K :=
 clr ht (by simpa using hle) hg h1 hh (by rw [← List.map_take];exact next)
theorem cloW {α : Type} {g1 : α → AV} {l l' : List α} {s g sz m : Nat} {f : FuncId} {args : List Operand} {at_ : Array TypeId} {asx ys : List AV} (hdoes : Does P n.gl f [.buf sz (l.map g1)] ys [0] [.buf sz (l'.map g1)] (.own 0 0 sz 0 m false)) (hc : callable P f = true) (hh : H.lookup s = some (some (g, .buf sz (l.map g1)))) (hg : gdOp ops T gd = some gts) (ha : evOps T args = some (asx, ts)) (hp : ∀ a, Pu (g1 a)) (hargs : RnL [((s, g), (0, 0))] [] asx ys) (hd : Nat.blt d n.n = true)
    (next:RG P ops n c (k+1) rest (mk ((d,.own s g sz 0 m false)::T) ((s,some (g,.buf sz (l'.map g1)))::H)) (⟨gts++([]++ts),[s],[s]⟩::fs) K) :
    RG P ops n c k (⟨some d,.call ⟨.value (.func f),args.toArray,at_⟩,ty,pos,aft,gd⟩::rest) (mk T H) fs K :=
 rg_call_core (first:=[]) (caps:=[]) (ts0:=[]) (os:=[.buf sz (l.map g1)]) (os':=[.buf sz (l'.map g1)]) (os2:=[.buf sz (l'.map g1)]) (pins:=[0]) (inp:=[(s,g,.buf sz (l.map g1))]) (Z:=[]) (nm:=[(s,g)]) (es:=[(s,some (g,.buf sz (l'.map g1)))])
  hdoes (gd_of hg) (.func f) (evL_of ha) hc ⟨rfl,rfl⟩ (by simpa using hook_of hh) (by simp) (by simp) (by simp)
  (.cons _ _ _ _ (.buf _ _ _ rfl fun i x y hx hy=>by rw [hx] at hy;cases hy;exact .pu _ (pu_map hp l x (List.mem_of_getElem? hx))) .nil) (by simpa [sgOf] using hargs)
  ⟨rfl,rfl,by simp,by simp,by
   intro i q hq
   cases i with
   | zero=>simp at hq;subst hq;exact .inr ⟨by simp,_,rfl,rfl⟩
   | succ i=>simp at hq,by
   intro i o o2 ho ho2
   cases i with
   | zero =>
    simp at ho ho2
    subst ho;subst ho2
    exact .buf _ _ _ rfl fun i x y hx hy=>by rw [hx] at hy;cases hy;exact .pu _ (pu_map hp l' x (List.mem_of_getElem? hx))
   | succ i=>simp at ho⟩ (.one _ _ (.own 0 0 s g sz 0 m false (by simp [tgOf]))) (by simp [callEffs]) (by intro d' e;cases e;exact lt_ok hd) (by rw [app_mk];simpa using next)
theorem clN {α : Type} {g1 : α → AV} {l' : List α} (s : Nat) {sz m : Nat} {f : FuncId} {args : List Operand} {at_ : Array TypeId} {asx : List AV} (hdoes : Does P n.gl f [] asx [] [.buf sz (l'.map g1)] (.own 0 0 sz 0 m false)) (hc : callable P f = true) (hg : gdOp ops T gd = some gts) (ha : evOps T args = some (asx, ts)) (hp : ∀ a, Pu (g1 a)) (hpa : PuL asx) (hd : Nat.blt d n.n = true)
    (next:RG P ops n c (k+1) rest (mk ((d,.own s (c+k) sz 0 m false)::T) ((s,some (c+k,.buf sz (l'.map g1)))::H)) (⟨gts++([]++ts),[],[s]⟩::fs) K) :
    RG P ops n c k (⟨some d,.call ⟨.value (.func f),args.toArray,at_⟩,ty,pos,aft,gd⟩::rest) (mk T H) fs K :=
 rg_call_core (first:=[]) (caps:=[]) (ts0:=[]) (os:=[]) (os':=[.buf sz (l'.map g1)]) (os2:=[.buf sz (l'.map g1)]) (pins:=[]) (inp:=[]) (Z:=[]) (nm:=[(s,c+k)]) (es:=[(s,some (c+k,.buf sz (l'.map g1)))])
  hdoes (gd_of hg) (.func f) (evL_of ha) hc ⟨rfl,rfl⟩ (by simp) (by simp) (by simp) (by simp) .nil (by simpa [sgOf] using hpa.rn)
  ⟨rfl,rfl,by simp,by simp,by
   intro i q hq
   cases i with
   | zero=>simp at hq;subst hq;exact .inl rfl
   | succ i=>simp at hq,by
   intro i o o2 ho ho2
   cases i with
   | zero =>
    simp at ho ho2
    subst ho;subst ho2
    exact .buf _ _ _ rfl fun i x y hx hy=>by rw [hx] at hy;cases hy;exact .pu _ (pu_map hp l' x (List.mem_of_getElem? hx))
   | succ i=>simp at ho⟩ (.one _ _ (.own 0 0 s (c+k) sz 0 m false (by simp [tgOf]))) (by simp [callEffs]) (by intro d' e;cases e;exact lt_ok hd) (by rw [app_mk];simpa using next)
theorem apoS {α : Type} {f : α → AV} {l zs : List α} {t e : TypeId} {s g sz by_ s2 g2 m : Nat} {cl cl2 : Bool} {zv : List Value} (ht : se P t = some (e, sz, zv, by_)) (hm : m ≤ zs.length) (hby : (l.length + m) * by_ ≤ 140737488355328) (hsm : l.length + m ≤ 140737488355328) (hg : gdOp ops T gd = some gts) (h1 : evOp T x1 = some (.own s g sz 0 l.length cl, ts1)) (h2 : evOp T x2 = some (.own s2 g2 sz 0 m cl2, ts2)) (hh : H.lookup s = some (some (g, .buf sz (l.map f)))) (hh2 : H.lookup s2 = some (some (g2, .buf sz (zs.map f)))) (hd : Nat.blt d n.n = true)
    (next:RG P ops n c (k+1) rest (mk ((d,.own s (c+k) sz 0 (l++zs.take m).length false)::T) ((s,some (c+k,.buf sz ((l++zs.take m).map f)))::(s,none)::H)) (⟨gts++(ts1++ts2),[s,s2],[s,s]⟩::fs) K) :
    RG P ops n c k (⟨some d,.call ⟨.builtin .append,#[x1,x2],#[t,t]⟩,ty,pos,aft,gd⟩::rest) (mk T H) fs K:=by
 have hlen:(zs.take m).length=m:=by simp;omega
 exact apo (zs.take m) s ht hg h1 h2 hh hh2 hd rfl (by simpa using hm) (by rw [List.drop_zero,← List.map_take]) (by rw [hlen];exact hby) (by rw [hlen];exact hsm) next
end
section
variable {P : Program} {fn : Func} {X : Run} {cl : Nat} {T : TL} {H : HL}
theorem outOw {α:Type}{g1:α→AV}{l:List α}{sz r m:Nat}{c:Bool}{e:Exit} (hr:fn.results = #[.tmp r]) (he:e = .ret∨e = .normal) (hl:T.lookup r=some (.own 0 0 sz 0 m c)) (hh:H.lookup 0=some (some (0,.buf sz (l.map g1)))) (hp:∀ a,Pu (g1 a)) (hc:c=false):At X cl (mk T H) (Out P fn X [0] [.buf sz (l.map g1)] (.own 0 0 sz 0 m false) e):=by
 subst hc
 exact at_out1 hr (look_of hl) (hand1 hh hp) (by simp) (.one _ _ (.own _ _ _ _ _ _ _ _ (by simp))) e he
theorem outN {α:Type}{g1:α→AV}{l:List α}{s g sz r:Nat}{e:Exit} (hr:fn.results = #[.tmp r]) (he:e = .ret∨e = .normal) (hl:T.lookup r=some (.own s g sz 0 l.length false)) (hh:H.lookup s=some (some (g,.buf sz (l.map g1)))) (hp:∀ a,Pu (g1 a)):At X cl (mk T H) (Out P fn X [] [.buf sz (l.map g1)] (.own 0 0 sz 0 l.length false) e) :=
 at_out1 (σ:=[((s,g),(0,0))]) (Z:=[]) hr (look_of hl) ⟨rfl,by
  intro i p o h1 h2
  cases i with
  | zero =>
   simp at h1 h2
   subst h1;subst h2
   exact ⟨rfl,_,hook_of hh,.buf _ _ _ rfl fun i x y hx hy=>by rw [hx] at hy;cases hy;exact .pu _ (pu_map hp l x (List.mem_of_getElem? hx))⟩
  | succ i=>simp at h1,by simp,by simp⟩ (by simp) (.one _ _ (.own _ _ _ _ _ _ _ _ (by simp))) e he
theorem frzS {α : Type} {f : α → AV} {l : List α} (t s : Nat) {g sz m : Nat} {c : Bool} {Φ : Act → World → Prop} (hl : T.lookup t = some (.own s g sz 0 m c)) (hh : H.lookup s = some (some (g, .buf sz (l.map f)))) (hp : ∀ a, Pu (f a)) (hm : m ≤ l.length)
    (h:At X cl (mk ((t,.lst false sz ((l.take m).map f))::T) ((s,none)::H)) Φ):At X cl (mk T H) Φ :=
 at_freeze [(s,g,.buf sz (l.map f))] [(t,.own s g sz 0 m c,.lst false sz ((l.take m).map f))] (hz1 hh) (by
  intro p hp'
  simp only [List.mem_singleton] at hp'
  subst hp'
  refine ⟨look_of hl,.one _ _ ?_⟩
  have:=Rn.zlst (σ:=[]) (Z:=[(s,g,.buf sz (l.map f))]) s g sz 0 m c (l.map f) (l.map f) (by simp) (by simpa using hm) rfl (fun i x y hx hy=>by rw [hx] at hy;cases hy;exact .pu _ (pu_map hp l x (List.mem_of_getElem? hx)))
  rw [List.drop_zero,← List.map_take] at this
  exact this) h
def NL {α:Type} (sz:Nat) (f:α→AV):Option (List α)→AV
 | none=>.v (.slice none 0 0)
 | some l=>.lst false sz (l.map f)
theorem nslF {α : Type} {f : α → AV} {sz : Nat} (s : Nat) {g k : Nat} {l : List (Option (List α))} {Φ : Act → World → Prop} (hh : H.lookup s = some (some (g, .buf k (l.map (NL sz f)))))
    (h:At X cl (mk T ((s,some (g,.buf k ((l.map fun o=>o.getD []).map fun l=>AV.lst false sz (l.map f))))::H)) Φ):At X cl (mk T H) Φ:=by
 refine at_obj s hh (fun C L hr=>?_) h
 obtain ⟨q1,q2⟩:=hr
 refine ⟨q1,?_⟩
 revert q2
 cases L.blk with
 | none=>intro q2;have q2:l.map (NL sz f)=[]:=q2;simp at q2;subst q2;rfl
 | some b =>
  rintro ⟨arr,t,a1,a2,a3,a4⟩
  refine ⟨arr,t,a1,a2,by simpa using a3,fun j x hx=>?_⟩
  simp only [List.map_map,List.getElem?_map] at hx
  obtain ⟨o,ho,e⟩:=Option.map_eq_some_iff.1 hx
  obtain ⟨cs,c1,c2,c3⟩:=a4 j (NL sz f o) (by simp [ho])
  refine ⟨cs,c1,?_,c3⟩
  subst e
  cases o with
  | none =>
   simp only [NL] at c2
   cases c2
   exact vr_nil f sz C _ (.v _ rfl)
  | some l=>exact c2
end
end Go.Ar
namespace Go.Ar
open Go.RowKit
inductive Rlx:List AV→List AV→Prop
 | nil:Rlx [] []
 | same (x xs ys):Rlx xs ys→Rlx (x::xs) (x::ys)
 | list (sz xs ys):Rlx xs ys→Rlx (.v (.slice none 0 0)::xs) (.lst false sz []::ys)
theorem Rlx.get {xs ys:List AV} (h:Rlx xs ys):xs.length=ys.length∧∀ (i:Nat) x y,xs[i]? = some x→ys[i]? = some y→(x=y∨∃ sz,x = .v (.slice none 0 0)∧y = .lst false sz []):=by
 induction h with
 | nil=>exact ⟨rfl,by simp⟩
 | same x xs ys _ ih =>
  refine ⟨by simp [ih.1],fun i a b ha hb=>?_⟩
  cases i with
  | zero=>simp at ha hb;subst ha;subst hb;exact .inl rfl
  | succ i=>exact ih.2 i a b (by simpa using ha) (by simpa using hb)
 | list sz xs ys _ ih =>
  refine ⟨by simp [ih.1],fun i a b ha hb=>?_⟩
  cases i with
  | zero=>simp at ha hb;subst ha;subst hb;exact .inr ⟨sz,rfl,rfl⟩
  | succ i=>exact ih.2 i a b (by simpa using ha) (by simpa using hb)
theorem Rlx.vr {xs ys:List AV} (h:Rlx xs ys) {C:Cx}{cs:List Value} (hv:VR C (.agg xs) cs):VR C (.agg ys) cs:=by
 obtain ⟨e1,e2⟩:=h.get
 cases hv with
 | agg _ _ h1 h2 h3 h4 =>
  have key:∀ (i:Nat) y,ys[i]? = some y→∃ x,xs[i]? = some x∧(x=y∨∃ sz,x = .v (.slice none 0 0)∧y = .lst false sz []):=by
   intro i y hy
   have hi:i < xs.length:=by have:=(List.getElem?_eq_some_iff.1 hy).1;omega
   exact ⟨xs[i],List.getElem?_eq_getElem hi,e2 i _ _ (List.getElem?_eq_getElem hi) hy⟩
  refine .agg _ _ (by omega) h2 ?_ ?_
  ·intro y hy
   obtain ⟨i,hi⟩:=List.mem_iff_getElem?.1 hy
   obtain ⟨x,hx,rfl | ⟨sz,rfl,rfl⟩⟩:=key i y hi
   ·exact h3 x (List.mem_of_getElem? hx)
   ·rfl
  ·intro i y hy c hc
   obtain ⟨x,hx,rfl | ⟨sz,rfl,rfl⟩⟩:=key i y hy
   ·exact h4 i x hx c hc
   ·have:=h4 i _ hx c hc
    exact vr_nil (α:=Unit) (fun _=>.any) sz C c this
section
variable {P : Program} {ops : Array Oper} {n : Nn} {c k : Nat} {rest : List Oper} {T : TL} {H : HL} {fs : List Foot} {K : List Foot → St → Prop}
variable {d ty : Nat} {pos : String} {aft : Array Edge} {gd : Option (Nat × Bool)} {gts ts ts0 ts1 ts2 ts3 : List Nat} {x x1 x2 x3 : Operand} {y y1 y2 : AV}
theorem bldZ {t : TypeId} {parts : List (Nat × Operand)} {ps : List (Nat × AV)} {zs : List Value} {pl : List (Nat × Nat)} {ys zs' : List AV} (ht : bd P t = some (zs, pl)) (hg : gdOp ops T gd = some gts) (hx : evPs T parts = some (ps, ts)) (hf : fillA (pl[·]?) (zs.map .v) ps = some ys) (hr : Rlx ys zs') (hd : Nat.blt d n.n = true)
    (next:RG P ops n c (k+1) rest (mk ((d,.agg zs')::T) H) (⟨gts++ts,[],[]⟩::fs) K):RG P ops n c k (⟨some d,.build t parts.toArray,ty,pos,aft,gd⟩::rest) (mk T H) fs K :=
 rg_val rfl (lt_ok hd) (gd_of hg) (fun C a w _ hop _=>by
  obtain ⟨h1,h2⟩:=evs_vt hop (evPs_of hx) fun _ h=>h
  obtain ⟨cs,hrun,hvr⟩:=build_run ht h1 h2 hf w
  refine ⟨.agg cs.toArray,?_,cs,rfl,hr.vr hvr⟩
  simp only [execOp,List.map_toArray]
  rw [run_bind_ok hrun]
  rfl) next
theorem ixB {t e : TypeId} {s g m i : Nat} {q : Int} {kd : IntKind} (ht : ar P t = some (m, e, 1)) (hq : q = (i : Int)) (hi : i < m) (hg : gdOp ops T gd = some gts) (h1 : evOp T x1 = some (.ptr s g 0 0, ts1)) (h2 : evOp T x2 = some (.v (.int kd q), ts2)) (hd : Nat.blt d n.n = true)
    (next:RG P ops n c (k+1) rest (mk ((d,.ptr s g 0 i)::T) H) (⟨gts++(ts1++ts2),[],[]⟩::fs) K):RG P ops n c k (⟨some d,.indexAddr t x1 x2,ty,pos,aft,gd⟩::rest) (mk T H) fs K :=
 rg_aindex (gd_of hg) (ev_of h1) (ev_of h2) ht hq hi (lt_ok hd) (by simpa using next)
theorem ldB {α : Type} {f : α → AV} {l : List α} {t : TypeId} {s g i sz : Nat} {v : α} (ht : tk P t = some (false, 1)) (hv : l[i]? = some v) (hg : gdOp ops T gd = some gts) (hx : evOp T x = some (.ptr s g 0 i, ts)) (hh : H.lookup s = some (some (g, .buf sz [.agg (l.map f)]))) (hd : Nat.blt d n.n = true)
    (next:RG P ops n c (k+1) rest (mk ((d,f v)::T) H) (⟨gts++ts,[s],[]⟩::fs) K):RG P ops n c k (⟨some d,.load t x,ty,pos,aft,gd⟩::rest) (mk T H) fs K :=
 ld ht hg hx hh rfl (by simp [partOf,cellAt,hv]) hd next
end
theorem rnoX {σ:Sel}{k:Nat}{cs cs':List AV} (h:RnL σ [] cs cs'):RnO σ [] (.buf k [.agg cs]) (.buf k [.agg cs']) :=
 .buf _ _ _ rfl fun i x y hx hy=>by
  cases i with
  | zero=>simp at hx hy;subst hx;subst hy;exact .agg _ _ h.get.1 h.get.2
  | succ i=>simp at hx
theorem rnoL {σ:Sel}{α:Type}{g1:α→AV}{l:List α}{sz:Nat} (hp:∀ a,Pu (g1 a)):RnO σ [] (.buf sz (l.map g1)) (.buf sz (l.map g1)) :=
 .buf _ _ _ rfl fun i x y hx hy=>by rw [hx] at hy;cases hy;exact .pu _ (pu_map hp l x (List.mem_of_getElem? hx))
theorem rnoM {σ:Sel}{κ ν:Type} [DecidableEq κ] {ek:κ→Value}{ev:ν→AV}{m:Mp κ ν} (hp:∀ a,Pu (ev a)):RnO σ [] (.map (encM ek ev m)) (.map (encM ek ev m)) :=
 .map _ _ rfl fun i p p' h h'=>by
  rw [h] at h';cases h'
  refine ⟨rfl,.pu _ ?_⟩
  obtain ⟨q,_,rfl⟩:=List.mem_map.1 (List.mem_of_getElem? h)
  exact hp _
abbrev wkO {α κ ν:Type} [DecidableEq κ] (g1:α→AV) (ek:κ→Value) (ev:ν→AV) (l:List α) (m1 m2:Mp κ ν):List Ob:=[.buf 3 [.agg [.own 1 0 1 0 l.length false,.mp 2 0,.mp 3 0]],.buf 1 (l.map g1),.map (encM ek ev m1),.map (encM ek ev m2)]
section
variable {P : Program} {fn : Func} {X : Run} {cl : Nat} {T : TL} {H : HL}
theorem outWk {α κ ν : Type} [DecidableEq κ] {g1 : α → AV} {ek : κ → Value} {ev : ν → AV} {l : List α} {m1 m2 : Mp κ ν} {r g : Nat} {x : AV} {e : Exit} (hr : fn.results = #[.tmp r]) (he : e = .ret ∨ e = .normal) (hl : T.lookup r = some x) (hx : Pu x) (hp : ∀ a, Pu (g1 a)) (hq : ∀ a, Pu (ev a))
    (h0:H.lookup 0=some (some (0,.buf 3 [.agg [.own 1 g 1 0 l.length false,.mp 2 0,.mp 3 0]]))) (h1:H.lookup 1=some (some (g,.buf 1 (l.map g1)))) (h2:H.lookup 2=some (some (0,.map (encM ek ev m1)))) (h3:H.lookup 3=some (some (0,.map (encM ek ev m2)))) :
    At X cl (mk T H) (Out P fn X [0,2,3] (wkO g1 ek ev l m1 m2) x e) :=
 at_out1 (σ:=[((0,0),(0,0)),((1,g),(1,0)),((2,0),(2,0)),((3,0),(3,0))]) (Z:=[]) hr (look_of hl) ⟨rfl,by
  intro i p o k1 k2
  match i with
  | 0=>simp at k1 k2;subst k1;subst k2;exact ⟨rfl,_,hook_of h0,rnoX (.cons _ _ _ _ (.own _ _ _ _ _ _ _ _ (by simp)) (.cons _ _ _ _ (.mp _ _ _ _ (by simp)) (.cons _ _ _ _ (.mp _ _ _ _ (by simp)) .nil)))⟩
  | 1=>simp at k1 k2;subst k1;subst k2;exact ⟨rfl,_,hook_of h1,rnoL hp⟩
  | 2=>simp at k1 k2;subst k1;subst k2;exact ⟨rfl,_,hook_of h2,rnoM hq⟩
  | 3=>simp at k1 k2;subst k1;subst k2;exact ⟨rfl,_,hook_of h3,rnoM hq⟩
  | i+4=>simp at k1,by simp,by simp⟩ (by simp) (.one _ _ (.pu _ hx)) e he
end
section
variable {P : Program} {ops : Array Oper} {n : Nn} {c k : Nat} {rest : List Oper} {T : TL} {H : HL} {fs : List Foot} {K : List Foot → St → Prop}
variable {d ty : Nat} {pos : String} {aft : Array Edge} {gd : Option (Nat × Bool)} {gts ts ts0 ts1 ts2 ts3 : List Nat} {x x1 x2 x3 : Operand} {y y1 y2 : AV}
theorem clWk {α κ ν : Type} [DecidableEq κ] {g1 : α → AV} {ek : κ → Value} {ev : ν → AV} {l l' : List α} {m1 m2 m1' m2' : Mp κ ν} {s0 g0 s1 g1' s2 g2 s3 g3 : Nat} {f : FuncId} {args : List Operand} {at_ : Array TypeId} {u v : Int} (hdoes : Does P n.gl f (wkO g1 ek ev l m1 m2) [.ptr 0 0 0 0, .v (.int .i64 u), .v (.int .i64 v)] [0, 2, 3] (wkO g1 ek ev l' m1' m2') y) (hc : callable P f = true) (hy : Pu y) (hp : ∀ a, Pu (g1 a)) (hq : ∀ a, Pu (ev a)) (hne : [s0, s1, s2, s3].Nodup)
    (h0:H.lookup s0=some (some (g0,.buf 3 [.agg [.own s1 g1' 1 0 l.length false,.mp s2 g2,.mp s3 g3]]))) (h1:H.lookup s1=some (some (g1',.buf 1 (l.map g1)))) (h2:H.lookup s2=some (some (g2,.map (encM ek ev m1)))) (h3:H.lookup s3=some (some (g3,.map (encM ek ev m2))))
    (hg:gdOp ops T gd=some gts) (ha:evOps T args=some ([.ptr s0 g0 0 0,.v (.int .i64 u),.v (.int .i64 v)],ts)) (hd:Nat.blt d n.n=true)
    (next:RG P ops n c (k+1) rest (mk ((d,y)::T) ((s0,some (g0,.buf 3 [.agg [.own s1 (c+k) 1 0 l'.length false,.mp s2 g2,.mp s3 g3]]))::(s1,some (c+k,.buf 1 (l'.map g1)))::(s2,some (g2,.map (encM ek ev m1')))::(s3,some (g3,.map (encM ek ev m2')))::H)) (⟨gts++([]++ts),[s0,s1,s2,s3],[s0,s1,s2,s3]⟩::fs) K) :
    RG P ops n c k (⟨some d,.call ⟨.value (.func f),args.toArray,at_⟩,ty,pos,aft,gd⟩::rest) (mk T H) fs K :=
 rg_call_core (first:=[]) (caps:=[]) (ts0:=[]) (os:=wkO g1 ek ev l m1 m2) (os':=wkO g1 ek ev l' m1' m2') (pins:=[0,2,3]) (Z:=[]) (yr:=y)
  (os2:=[.buf 3 [.agg [.own s1 (c+k) 1 0 l'.length false,.mp s2 g2,.mp s3 g3]],.buf 1 (l'.map g1),.map (encM ek ev m1'),.map (encM ek ev m2')])
  (inp:=[(s0,g0,.buf 3 [.agg [.own s1 g1' 1 0 l.length false,.mp s2 g2,.mp s3 g3]]),(s1,g1',.buf 1 (l.map g1)),(s2,g2,.map (encM ek ev m1)),(s3,g3,.map (encM ek ev m2))])
  (nm:=[(s0,g0),(s1,c+k),(s2,g2),(s3,g3)])
  (es:=[(s0,some (g0,.buf 3 [.agg [.own s1 (c+k) 1 0 l'.length false,.mp s2 g2,.mp s3 g3]])),(s1,some (c+k,.buf 1 (l'.map g1))),(s2,some (g2,.map (encM ek ev m1'))),(s3,some (g3,.map (encM ek ev m2')))])
  hdoes (gd_of hg) (.func f) (evL_of ha) hc ⟨rfl,rfl⟩ (by
   intro p hp'
   simp only [List.mem_cons,List.not_mem_nil,or_false] at hp'
   rcases hp' with rfl | rfl | rfl | rfl
   ·exact hook_of h0
   ·exact hook_of h1
   ·exact hook_of h2
   ·exact hook_of h3) (by simp) (by simpa using hne) (by simp)
  (.cons _ _ _ _ (rnoX (.cons _ _ _ _ (.own _ _ 1 0 _ _ _ _ (by simp [sgOf])) (.cons _ _ _ _ (.mp _ _ 2 0 (by simp [sgOf])) (.cons _ _ _ _ (.mp _ _ 3 0 (by simp [sgOf])) .nil)))) (.cons _ _ _ _ (rnoL hp) (.cons _ _ _ _ (rnoM hq) (.cons _ _ _ _ (rnoM hq) .nil))))
  (.cons _ _ _ _ (.ptr _ _ 0 0 _ _ (by simp [sgOf])) (.cons _ _ _ _ (.pu _ (.v _)) (.cons _ _ _ _ (.pu _ (.v _)) .nil)))
  ⟨rfl,rfl,by simpa using hne,by simp,by
   intro i q hq'
   match i with
   | 0=>simp at hq';subst hq';exact .inr ⟨by simp,_,rfl,rfl⟩
   | 1=>simp at hq';subst hq';exact .inl rfl
   | 2=>simp at hq';subst hq';exact .inr ⟨by simp,_,rfl,rfl⟩
   | 3=>simp at hq';subst hq';exact .inr ⟨by simp,_,rfl,rfl⟩
   | i+4=>simp at hq',by
   intro i o o2 ho ho2
   match i with
   | 0=>simp at ho ho2;subst ho;subst ho2;exact rnoX (.cons _ _ _ _ (.own 1 0 s1 (c+k) _ _ _ _ (by simp [tgOf])) (.cons _ _ _ _ (.mp 2 0 s2 g2 (by simp [tgOf])) (.cons _ _ _ _ (.mp 3 0 s3 g3 (by simp [tgOf])) .nil)))
   | 1=>simp at ho ho2;subst ho;subst ho2;exact rnoL hp
   | 2=>simp at ho ho2;subst ho;subst ho2;exact rnoM hq
   | 3=>simp at ho ho2;subst ho;subst ho2;exact rnoM hq
   | i+4=>simp at ho⟩ (.one _ _ (.pu _ hy)) (by simp [callEffs]) (by intro d' e;cases e;exact lt_ok hd) (by rw [app_mk];simpa using next)
end
section
variable {X : Run} {cl : Nat} {T : TL} {H : HL} {Φ : Act → World → Prop}
theorem cutP {α:Type}{f:α→AV}{l:List α} (s m:Nat) {g sz:Nat} (hh:H.lookup s=some (some (g,.buf sz (l.map f)))) (h:At X cl (mk T ((s,some (g,.buf sz ((l.take m).map f)))::H)) Φ):At X cl (mk T H) Φ :=
 at_obj s hh (fun C L hr=>by
  obtain ⟨q1,q2⟩:=hr
  refine ⟨q1,?_⟩
  revert q2
  cases L.blk with
  | none=>intro q2;have q2:l.map f=[]:=q2;simp at q2;subst q2;show List.map f (List.take m [])=[];simp
  | some b =>
   rintro ⟨arr,t,a1,a2,a3,a4⟩
   refine ⟨arr,t,a1,a2,Nat.le_trans (Nat.mul_le_mul_right _ (by simp;omega)) a3,fun j x hx=>?_⟩
   rw [List.map_take,List.getElem?_take] at hx
   split at hx
   ·exact a4 j x hx
   ·cases hx) h
theorem slotL (t:Nat) {s g sz off m m':Nat}{b:Bool} (hm:m=m') (hl:T.lookup t=some (.own s g sz off m b)) (h:At X cl (mk ((t,.own s g sz off m' b)::T) H) Φ):At X cl (mk T H) Φ:=ateq t hl (by rw [hm]) h
theorem cellL (s j:Nat) {g k s1 g1 sz m m':Nat}{b:Bool}{cs:List AV} (hm:m=m') (hh:H.lookup s=some (some (g,.buf k [.agg cs]))) (hc:cs[j]? = some (.own s1 g1 sz 0 m b)) (h:At X cl (mk T ((s,some (g,.buf k [.agg (cs.set j (.own s1 g1 sz 0 m' b))]))::H)) Φ):At X cl (mk T H) Φ :=
 atcell s 0 j hh rfl hc rfl (fun C u hu=>by subst hm;exact hu) h
end
end Go.Ar
namespace Go.Ar
open Go.RowKit
theorem run_append_zeros {P : Program} (w : World) (t tx ty e : TypeId) (i : TypeInfo) (z : Value) (kd : IntKind) (ht : P.underlying t = some (.slice e)) (hk : P.underlying tx = some (.int kd)) (hi : P.info? e = some i) (hz : i.zero = some z) (m : Nat) (h0 : 0 < m) (hsz : 0 < i.size) (hm : m ≤ 140737488355328) (hb : m * i.bytes ≤ 140737488355328) :
    (Builtin.append_ #[t,tx] ty #[.slice none 0 0,.int .i64 (m:Int)]).run P w = .ok (.slice (some ⟨w.heap.size,0,none⟩) m (grownCap w m 0 e)) (w.drew.alloc (.cells (Builtin.zeroCells z.cells m++Builtin.zeroCells z.cells (grownCap w m 0 e - m)) e)):=by
 have hw:IntKind.i64.wrap (m:Int)=m:=by rw [IntKind.wrap_i64];omega
 have n1:¬ ((m:Int) < 0):=by omega
 have n2:¬ (281474976710656 < (m:Int) * (i.bytes:Int)):=by
  have:((m * i.bytes:Nat):Int)≤140737488355328:=by omega
  rw [Int.natCast_mul] at this
  omega
 have n3:¬ (m=0):=by omega
 have n4:¬ (9223372036854775807 < (m:Int)):=by omega
 have n5:¬ (i.size=0):=by omega
 have hfit:Builtin.nextslicecap (0+m) 0 * i.bytes≤281474976710656:=growslice_fits (by omega) (by rw [Nat.zero_add];exact hb)
 rw [Nat.zero_add] at hfit
 have n6:¬ (281474976710656 < Builtin.nextslicecap m 0 * i.bytes):=by omega
 simp [Builtin.append_,run_underlying ht,run_underlying hk,asInt,asIntOf,sizeOf,typeInfo,zeroValue,hi,hz,hw,n1,n2,n3,n4,n5,n6,Question.forced,newRow,grownCap,Builtin.firstCells]
 exact fun h=>absurd h (Nat.ne_of_gt (Nat.mul_pos h0 hsz))
section
variable {P : Program} {ops : Array Oper} {n : Nn} {c k : Nat} {rest : List Oper} {T : TL} {H : HL} {fs : List Foot} {K : List Foot → St → Prop}
variable {d ty : Nat} {pos : String} {aft : Array Edge} {gd : Option (Nat × Bool)} {gts ts ts0 ts1 ts2 ts3 : List Nat} {x x1 x2 x3 : Operand} {y y1 y2 : AV}
theorem apM {α : Type} (f : α → AV) (s : Nat) {t tx e : TypeId} {sz by_ m : Nat} {zv : List Value} {kd : IntKind} {q : Int} (ht : se P t = some (e, sz, zv, by_)) (hk : P.underlying tx = some (.int kd)) (hq : q = (m : Int)) (h0 : 0 < m) (hb : m * by_ ≤ 140737488355328) (hby : 0 < by_) (hg : gdOp ops T gd = some gts) (h1 : evOp T x1 = some (.v (.slice none 0 0), ts1)) (h2 : evOp T x2 = some (.v (.int .i64 q), ts2)) (hd : Nat.blt d n.n = true)
    (next:RG P ops n c (k+1) rest (mk ((d,.own s (c+k) sz 0 m false)::T) ((s,some (c+k,.buf sz (([]:List α).map f)))::H)) (⟨gts++(ts1++ts2),[],[s]⟩::fs) K) :
    RG P ops n c k (⟨some d,.call ⟨.builtin .append,#[x1,x2],#[t,tx]⟩,ty,pos,aft,gd⟩::rest) (mk T H) fs K:=by
 subst hq
 refine rg_core (r:=⟨(gts++(ts1++ts2)).map fun t=>(t,lookT T t),[],.own s (c+k) sz 0 m false,c+k,[(s,some (c+k,.buf sz (([]:List α).map f)))]⟩) (gd_of hg) rfl (by simp) rfl ?_ ?_
 ·intro base w0 F G E st a w Q K' hG hp hs hK
  have hop:∀ x z ts,Ev T x z ts→(∀ t∈ts,t∈ts1++ts2)→VT (cx base F E G w) z (a.eval x):=fun x z ts hx hts=>hs.opd hp (opd_of rfl hx hts)
  have e1:=vt_v_eq (hop x1 _ ts1 (ev_of h1) (by simp +contextual))
  have e2:=vt_v_eq (hop x2 _ ts2 (ev_of h2) (by simp +contextual))
  obtain ⟨hu,i,z,hi,hz,hsz,hbyt,hzc,hzl,hpos,hall⟩:=se_parts ht
  have hm:m≤140737488355328:=Nat.le_trans (Nat.le_mul_of_pos_right m hby) hb
  have hrun:=run_append_zeros (P:=P) w t tx ty e i z kd hu hk hi hz m h0 (by omega) hm (by rw [hbyt];exact hb)
  unfold Oper.wp
  have hex:(execOp a.eval ⟨some d,.call ⟨.builtin .append,#[x1,x2],#[t,tx]⟩,ty,pos,aft,gd⟩).run P w = .ok (.value (.slice (some ⟨w.heap.size,0,none⟩) m (grownCap w m 0 e))) (w.drew.alloc (.cells (Builtin.zeroCells z.cells m++Builtin.zeroCells z.cells (grownCap w m 0 e - m)) e)):=by
   refine call_run (xs:=[x1,x2]) rfl rfl fun consts=>?_
   simp only [List.map_cons,List.map_nil,e1,e2,builtin]
   rw [run_bind_ok hrun]
   rfl
  rw [hex]
  have hge:=grownCap_ge w m 0 e
  have hzs:z.cells.size=sz:=by rw [hzc];simpa using hzl
  have hsize:(Builtin.zeroCells z.cells m++Builtin.zeroCells z.cells (grownCap w m 0 e - m)).size=grownCap w m 0 e * sz:=by
   rw [Array.size_append,size_zeroCells,size_zeroCells,hzs,← Nat.add_mul]
   congr 1;omega
  refine hK _ _ (hs.make (s:=s) (o:=.buf sz (([]:List α).map f)) (ks:=[]) (L:=⟨some w.heap.size,sz,grownCap w m 0 e * sz⟩) hG rfl (by intro d' e;cases e;exact lt_ok hd) ((Below.refl _ _).drew.alloc (Nat.zero_le _) _) ?_ ?_ ?_ ?_)
  ·intro b' hb';cases hb';exact .inl ⟨Nat.le_refl _,by simp⟩
  ·intro b' hb' _;exact Below.heap_alloc w.drew _ b' (by simpa using hb')
  ·intro E' hle' _
   exact ob_of (b:=w.heap.size) (t:=e) (ns:=[]) rfl rfl (heap_alloc_new w.drew _) hsize (.nil _ _) (by simp)
  ·intro E' hle' hE'
   refine ⟨rfl,.own _ _ _ _ _ _ _ _ (.inr rfl) hge (by simp) fun _=>⟨_,_,rfl,fun L' hL'=>?_⟩⟩
   have hL':E' s (c+k)=some L':=hL'
   rw [hE'] at hL'
   cases hL'
   exact ⟨rfl,rfl,by simp,by simp⟩
 ·rw [app_mk,foot_of]
  exact next
theorem capN {t e : TypeId} {sz : Nat} (ht : sl P t = some (e, sz)) (hg : gdOp ops T gd = some gts) (h1 : evOp T x1 = some (.v (.slice none 0 0), ts1)) (hd : Nat.blt d n.n = true)
    (next:RG P ops n c (k+1) rest (mk ((d,.v (.int .i64 0))::T) H) (⟨gts++ts1,[],[]⟩::fs) K):RG P ops n c k (⟨some d,.call ⟨.builtin .cap,#[x1],#[t]⟩,ty,pos,aft,gd⟩::rest) (mk T H) fs K :=
 rg_val rfl (lt_ok hd) (gd_of hg) (fun C a w _ hop _=>by
  have e1:=vt_v_eq (hop x1 _ ts1 (ev_of h1) (by simp))
  refine ⟨.int .i64 0,call_run (xs:=[x1]) rfl rfl fun consts=>?_,vt_v rfl⟩
  simp only [List.map_cons,List.map_nil,e1,builtin]
  rw [run_bind_ok (v:=Value.int .i64 0) (w':=w)]
  ·rfl
  ·unfold Builtin.cap_
   simp only [List.getElem?_toArray,List.getElem?_cons_zero]
   rw [run_bind_ok (run_underlying (sl_parts ht w).1 w)]
   rfl) next
theorem lenN {t e : TypeId} {sz : Nat} (ht : sl P t = some (e, sz)) (hg : gdOp ops T gd = some gts) (h1 : evOp T x1 = some (.v (.slice none 0 0), ts1)) (hd : Nat.blt d n.n = true)
    (next:RG P ops n c (k+1) rest (mk ((d,.v (.int .i64 0))::T) H) (⟨gts++ts1,[],[]⟩::fs) K):RG P ops n c k (⟨some d,.call ⟨.builtin .len,#[x1],#[t]⟩,ty,pos,aft,gd⟩::rest) (mk T H) fs K :=
 rg_val rfl (lt_ok hd) (gd_of hg) (fun C a w _ hop _=>by
  have e1:=vt_v_eq (hop x1 _ ts1 (ev_of h1) (by simp))
  refine ⟨.int .i64 0,call_run (xs:=[x1]) rfl rfl fun consts=>?_,vt_v rfl⟩
  simp only [List.map_cons,List.map_nil,e1,builtin]
  rw [run_bind_ok (v:=Value.int .i64 0) (w':=w)]
  ·rfl
  ·unfold Builtin.len_
   simp only [List.getElem?_toArray,List.getElem?_cons_zero]
   rw [run_bind_ok (run_underlying (sl_parts ht w).1 w)]
   rfl) next
end
end Go.Ar
namespace Go.Ar
open Go.RowKit
section
variable {P : Program} {ops : Array Oper} {n : Nn} {c k : Nat} {rest : List Oper} {T : TL} {H : HL} {fs : List Foot} {K : List Foot → St → Prop}
theorem rg_lookupZ {d ty : Nat} {pos : String} {aft : Array Edge} {gd : Option (Nat × Bool)} {gts ts1 ts2 : List Nat} {t kt e : TypeId} {x1 x2 : Operand} {s g : Nat} {κ ν : Type} [DecidableEq κ] {ek : κ → Value} {ev : ν → AV} {m : Mp κ ν} {q : κ} {yk : AV} {ok : Value → Prop} {z0 : ν} {zv : Value} (KP : KeyP P kt ok) (hinj : ∀ a b, ek a = ek b → a = b) (hgd : Gd ops T gd gts)
    (h1:Ev T x1 (.mp s g) ts1) (h2:Ev T x2 yk ts2) (hg:ground yk=some (ek q)) (hh:Hook H s g (.map (encM ek ev m))) (ht:mt P t=some (kt,e)) (hok:∀ p∈m.l,ok (ek p.1)) (hk:ok (ek q)) (hz:zo P e=some zv) (hz0:∀ C v,VT C (.v zv) v→VT C (ev z0) v) (hev:∀ x,szOf (ev x)≠none) (hd:d < n.n)
    (next:RG P ops n c (k+1) rest (mk ((d,ev ((m.get? q).getD z0))::T) H) (⟨gts++(ts1++ts2),[s],[]⟩::fs) K):RG P ops n c k (⟨some d,.lookup t x1 x2 false,ty,pos,aft,gd⟩::rest) (mk T H) fs K :=
 rg_read rfl hd hgd hh (fun C a w L hw hL hr hop hB=>by
  obtain ⟨_,r1⟩:=hop x1 _ ts1 h1 (by simp +contextual)
  have e2:=vt_ground hg (hop x2 _ ts2 h2 (by simp +contextual))
  generalize e1:a.eval x1=u at r1
  cases r1 with
  | mp _ _ b hG hb =>
   obtain ⟨b',es,clock,e3,h4,⟨h5,_⟩,h6⟩:=hr
   rw [hb L hL] at e3
   cases e3
   rw [hw] at h4
   obtain ⟨z1,z2⟩:=zo_run hz w
   have hex:∀ v,(Instr.lookup t (.map (some b)) (ek q) false).run P w = .ok v w→(execOp a.eval ⟨some d,.lookup t x1 x2 false,ty,pos,aft,gd⟩).run P w = .ok (.value v) w:=by
    intro v hv
    simp only [execOp,e1,e2]
    rw [run_bind_ok hv]
    rfl
   rcases find_run KP hinj (m:=m) (ev:=ev) (C:=C) (by simpa [encM] using h5) (fun i p hp=>h6 i _ (encM_get hp)) hok hk w with ⟨f1,f2,_⟩ | ⟨j,en,x,cs,f1,f2,_,f3,f4,f5,_⟩
   ·refine ⟨_,hex _ (lookup_run KP ht hk z1 h4 f1 false),?_⟩
    rw [f2]
    simp only [Option.getD_none,Bool.false_eq_true,if_false]
    exact hz0 _ _ (vt_v z2)
   ·refine ⟨_,hex _ (lookup_run KP ht hk z1 h4 f1 false),?_⟩
    rw [f3]
    exact lay_vt (hev x) f4 f5) next
theorem rg_flookupZ {d ty : Nat} {pos : String} {aft : Array Edge} {gd : Option (Nat × Bool)} {gts ts1 ts2 : List Nat} {t kt e : TypeId} {x1 x2 : Operand} {κ ν : Type} [DecidableEq κ] {ek : κ → Value} {ev : ν → AV} {m : Mp κ ν} {q : κ} {yk : AV} {ok : Value → Prop} {z0 : ν} {zv : Value} (KP : KeyP P kt ok) (hinj : ∀ a b, ek a = ek b → a = b) (hgd : Gd ops T gd gts)
    (h1:Ev T x1 (.fmp (encM ek ev m)) ts1) (h2:Ev T x2 yk ts2) (hg:ground yk=some (ek q)) (ht:mt P t=some (kt,e)) (hok:∀ p∈m.l,ok (ek p.1)) (hk:ok (ek q)) (hz:zo P e=some zv) (hz0:∀ C v,VT C (.v zv) v→VT C (ev z0) v) (hev:∀ x,szOf (ev x)≠none) (hd:d < n.n)
    (next:RG P ops n c (k+1) rest (mk ((d,ev ((m.get? q).getD z0))::T) H) (⟨gts++(ts1++ts2),[],[]⟩::fs) K):RG P ops n c k (⟨some d,.lookup t x1 x2 false,ty,pos,aft,gd⟩::rest) (mk T H) fs K :=
 rg_val rfl hd hgd (fun C a w hw hop hB=>by
  obtain ⟨_,r1⟩:=hop x1 _ ts1 h1 (by simp +contextual)
  have e2:=vt_ground hg (hop x2 _ ts2 h2 (by simp +contextual))
  generalize e1:a.eval x1=u at r1
  cases r1 with
  | fmp _ b es clock cells hb h4 h5 h6 h7 =>
   rw [hw] at h4
   obtain ⟨z1,z2⟩:=zo_run hz w
   have hex:∀ v,(Instr.lookup t (.map (some b)) (ek q) false).run P w = .ok v w→(execOp a.eval ⟨some d,.lookup t x1 x2 false,ty,pos,aft,gd⟩).run P w = .ok (.value v) w:=by
    intro v hv
    simp only [execOp,e1,e2]
    rw [run_bind_ok hv]
    rfl
   rcases find_run KP hinj (m:=m) (ev:=ev) (C:=C) (by simpa [encM] using h5) (fun i p hp=>by
    obtain ⟨en,k1,k2,k3⟩:=h7 i _ (encM_get hp)
    exact ⟨en,cells i,k1,k2,k3,h6 i _ (encM_get hp)⟩) hok hk w with ⟨f1,f2,_⟩ | ⟨j,en,x,cs,f1,f2,_,f3,f4,f5,_⟩
   ·refine ⟨_,hex _ (lookup_run KP ht hk z1 h4 f1 false),?_⟩
    rw [f2]
    simp only [Option.getD_none,Bool.false_eq_true,if_false]
    exact hz0 _ _ (vt_v z2)
   ·refine ⟨_,hex _ (lookup_run KP ht hk z1 h4 f1 false),?_⟩
    rw [f3]
    exact lay_vt (hev x) f4 f5) next
variable {d ty : Nat} {pos : String} {aft : Array Edge} {gd : Option (Nat × Bool)} {gts ts ts0 ts1 ts2 ts3 : List Nat} {x x1 x2 x3 : Operand} {y y1 y2 : AV}
theorem lkMZ {κ ν : Type} [DecidableEq κ] {ek : κ → Value} {ev : ν → AV} {m : Mp κ ν} {q : κ} {t kt e : TypeId} {s g : Nat} {z0 : ν} {zv : Value} {yk : AV} (hk : KeyE P kt ek) (ht : mt P t = some (kt, e)) (hz : zo P e = some zv) (hev : ∀ x, szOf (ev x) ≠ none) (hz0 : ∀ C v, VT C (.v zv) v → VT C (ev z0) v) (hg : gdOp ops T gd = some gts) (h1 : evOp T x1 = some (.mp s g, ts1)) (h2 : evOp T x2 = some (yk, ts2)) (hq : ground yk = some (ek q)) (hh : H.lookup s = some (some (g, .map (encM ek ev m)))) (hd : Nat.blt d n.n = true)
    (next:RG P ops n c (k+1) rest (mk ((d,ev ((m.get? q).getD z0))::T) H) (⟨gts++(ts1++ts2),[s],[]⟩::fs) K):RG P ops n c k (⟨some d,.lookup t x1 x2 false,ty,pos,aft,gd⟩::rest) (mk T H) fs K:=by
 obtain ⟨ok,K1,K2⟩:=hk.key
 exact rg_lookupZ K1 hk.inj (gd_of hg) (ev_of h1) (ev_of h2) hq (hook_of hh) ht (fun _ _=>K2 _) (K2 _) hz hz0 hev (lt_ok hd) next
theorem lkFZ {κ ν : Type} [DecidableEq κ] {ek : κ → Value} {ev : ν → AV} {m : Mp κ ν} {q : κ} {t kt e : TypeId} {z0 : ν} {zv : Value} {yk : AV} (hk : KeyE P kt ek) (ht : mt P t = some (kt, e)) (hz : zo P e = some zv) (hev : ∀ x, szOf (ev x) ≠ none) (hz0 : ∀ C v, VT C (.v zv) v → VT C (ev z0) v) (hg : gdOp ops T gd = some gts) (h1 : evOp T x1 = some (.fmp (encM ek ev m), ts1)) (h2 : evOp T x2 = some (yk, ts2)) (hq : ground yk = some (ek q)) (hd : Nat.blt d n.n = true)
    (next:RG P ops n c (k+1) rest (mk ((d,ev ((m.get? q).getD z0))::T) H) (⟨gts++(ts1++ts2),[],[]⟩::fs) K):RG P ops n c k (⟨some d,.lookup t x1 x2 false,ty,pos,aft,gd⟩::rest) (mk T H) fs K:=by
 obtain ⟨ok,K1,K2⟩:=hk.key
 exact rg_flookupZ K1 hk.inj (gd_of hg) (ev_of h1) (ev_of h2) hq ht (fun _ _=>K2 _) (K2 _) hz hz0 hev (lt_ok hd) next
end
end Go.Ar
namespace Go.Ar
open Go.RowKit
namespace Mp
variable {κ ν : Type} [DecidableEq κ]
def idx (m:Mp κ ν) (k:κ):Nat:=m.l.findIdx fun p=>decide (p.1=k)
def touch (m:Mp κ ν) (k:κ) (z:ν):Mp κ ν:=if k∈m.l.map (·.1) then m else m.set k z
theorem touch_no {m:Mp κ ν}{k:κ}{z:ν} (h:k ∉ m.l.map (·.1)):(m.touch k z).l=m.l++[(k,z)]:=by
 unfold touch;rw [if_neg h];simp [set,setL,h]
theorem idx_no {m:Mp κ ν}{k:κ} (h:k ∉ m.l.map (·.1)):m.idx k=m.l.length:=by
 unfold idx
 rw [List.findIdx_eq_length]
 intro p hp
 have:p.1≠k:=fun e=>h (List.mem_map.2 ⟨p,hp,e⟩)
 simpa using this
theorem idx_of {m:Mp κ ν}{k:κ}{j:Nat}{x:ν} (h:m.l[j]? = some (k,x)):m.idx k=j:=by
 obtain ⟨hj,hx⟩:=List.getElem?_eq_some_iff.1 h
 unfold idx
 rw [List.findIdx_eq hj]
 refine ⟨by simp [hx],fun i hi=>?_⟩
 have hne:m.l[i].1≠k:=by
  intro e
  have i1:(m.l.map (·.1))[i]? = some k:=by simp [List.getElem?_eq_getElem (show i < m.l.length by omega),e]
  have i2:(m.l.map (·.1))[j]? = some k:=by simp [h]
  have:=(List.getElem?_inj (List.getElem?_eq_some_iff.1 i1).1 m.nd).1 (i1.trans i2.symm)
  omega
 simpa using hne
theorem touch_idx (m:Mp κ ν) (k:κ) (z:ν):∃ x,(m.touch k z).l[m.idx k]? = some (k,x):=by
 by_cases h:k∈m.l.map (·.1)
 ·obtain ⟨p,hp,e⟩:=List.mem_map.1 h
  obtain ⟨j,hj⟩:=List.mem_iff_getElem?.1 hp
  obtain ⟨p1,p2⟩:=p
  simp only at e
  subst e
  rw [idx_of hj]
  unfold touch;rw [if_pos h]
  exact ⟨p2,hj⟩
 ·rw [idx_no h,touch_no h]
  exact ⟨z,by simp⟩
theorem touch_set (m:Mp κ ν) (k:κ) (z v:ν):((m.touch k z).set k v).l=(m.set k v).l:=by
 unfold touch
 split
 ·rfl
 ·rename_i h
  have hk:k∈(m.l++[(k,z)]).map (·.1):=by simp
  have e1:(m.set k z).l=m.l++[(k,z)]:=by simp [set,setL,h]
  have e2:((m.set k z).set k v).l=((m.set k z).l).map (fun p=>if p.1=k then (k,v) else p):=by
   show setL (m.set k z).l k v=_
   rw [setL,if_pos (by rw [e1];exact hk)]
  rw [e2,e1]
  have e3:(m.set k v).l=m.l++[(k,v)]:=by simp [set,setL,h]
  rw [e3,List.map_append]
  congr 1
  ·conv=>rhs;rw [← List.map_id m.l]
   refine List.map_congr_left fun p hp=>?_
   have:p.1≠k:=fun e=>h (List.mem_map.2 ⟨p,hp,e⟩)
   simp [this]
  ·simp
end Mp
theorem findIdx_born {es:Array MapEntry}{clock i:Nat} (h:Bn es clock) (hi:i < es.size):es.findIdx? (fun e=>(e.born:Int) == (i:Int))=some i:=by
 rw [Array.findIdx?_eq_some_iff_getElem]
 refine ⟨hi,?_,fun j hj=>?_⟩
 ·have:=h.2 i es[i] (Array.getElem?_eq_getElem hi)
  simp [this]
 ·have:=h.2 j es[j] (Array.getElem?_eq_getElem (by omega))
  simp [this];omega
section
variable {P : Program} {ops : Array Oper} {n : Nn} {c k : Nat} {rest : List Oper} {T : TL} {H : HL} {fs : List Foot} {K : List Foot → St → Prop}
variable {d ty : Nat} {pos : String} {aft : Array Edge} {gd : Option (Nat × Bool)} {gts ts ts0 ts1 ts2 ts3 : List Nat} {x x1 x2 x3 : Operand} {y y1 y2 : AV}
theorem mapE {κ ν : Type} [DecidableEq κ] {ek : κ → Value} {ev : ν → AV} {m : Mp κ ν} {q : κ} {t kt e : TypeId} {s g : Nat} {z0 : ν} {zv : Value} {yk : AV} (hk : KeyE P kt ek) (ht : mt P t = some (kt, e)) (hz : zo P e = some zv) (hz0 : ev z0 = .v zv) (hg : gdOp ops T gd = some gts) (h1 : evOp T x1 = some (.mp s g, ts1)) (h2 : evOp T x2 = some (yk, ts2)) (hq : ground yk = some (ek q)) (hh : H.lookup s = some (some (g, .map (encM ek ev m)))) (hd : Nat.blt d n.n = true)
    (next:RG P ops n c (k+1) rest (mk ((d,.tup [.any,.v (.int .i64 (m.idx q:Int))])::T) ((s,some (g,.map (encM ek ev (m.touch q z0))))::H)) (⟨gts++(ts1++ts2),[s],[s]⟩::fs) K):RG P ops n c k (⟨some d,.mapEntry t x1 x2,ty,pos,aft,gd⟩::rest) (mk T H) fs K:=by
 obtain ⟨ok,KP,hoks⟩:=hk.key
 have hinj:=hk.inj
 have hk:=hoks q
 refine rg_core (r:=⟨(gts++(ts1++ts2)).map fun t=>(t,lookT T t),[(s,g,.map (encM ek ev m))],.tup [.any,.v (.int .i64 (m.idx q:Int))],c+k,[(s,some (g,.map (encM ek ev (m.touch q z0))))]⟩) (gd_of hg) rfl (by simpa using hook_of hh) rfl ?_ ?_
 ·intro base w0 F G E st a w Q K' hG hp hs hK
  have ho:=hp.reads (s,g,.map (encM ek ev m)) (by simp)
  obtain ⟨hgg,L,hL,hr⟩:=hs.live s g _ ho
  have hop:∀ x z ts,Ev T x z ts→(∀ t∈ts,t∈ts1++ts2)→VT (cx base F E G w) z (a.eval x):=fun x z ts hx hts=>hs.opd hp (opd_of rfl hx hts)
  obtain ⟨_,r1⟩:=hop x1 _ ts1 (ev_of h1) (by simp +contextual)
  have e2:=vt_ground hq (hop x2 _ ts2 (ev_of h2) (by simp +contextual))
  generalize e1:a.eval x1=u at r1
  cases r1 with
  | mp _ _ b hG' hb =>
   obtain ⟨b',es,clock,e3,h4,⟨h5,hbn⟩,h6⟩:=hr
   have hbL:=hb L hL
   rw [hbL] at e3
   cases e3
   have h4:w.heap[b]? = some (.map es clock):=h4
   have hsz:es.size=m.l.length:=by simpa [encM] using h5
   obtain ⟨z1,z2⟩:=zo_run hz w
   have key : ∃ v w' es' clock', (Instr.mapEntry t (.map (some b)) (ek q)).run P w = .ok (.tuple #[v, .int .i64 (m.idx q : Int)]) w' ∧ w'.heap[b]? = some (.map es' clock') ∧ (∀ b', b' ≠ b → w'.heap[b']? = w.heap[b']?) ∧ Below 0 w w' ∧
       (es'.size=(m.touch q z0).l.length∧Bn es' clock')∧∀ (i:Nat) p,(m.touch q z0).l[i]? = some p→∃ en cs,es'[i]? = some en∧en.key=ek p.1∧Lay (ev p.2) en.val cs∧VR (cx base F E G w) (ev p.2) cs:=by
    rcases find_run KP hinj (m:=m) (ev:=ev) (C:=cx base F E G w) hsz (fun i p hp=>h6 i _ (encM_get hp)) (fun _ _=>hoks _) hk w with ⟨f1,f2,f3⟩ | ⟨j,en,x,cs,f1,f2,f3,f4,f5,f6,f7⟩
    ·obtain ⟨w',k1,k2,k3,k4⟩:=setObj_heap (P:=P) (es':=es.push { key:=ek q,val:=zv,born:=clock }) (clock':=clock+1) h4
     refine ⟨zv,w',_,_,?_,k2,k3,k4,⟨?_,Bn_push hbn⟩,fun i p hp=>?_⟩
     ·unfold Instr.mapEntry
      rw [run_bind_ok (run_underlying (mt_of ht) w)]
      simp only
      rw [run_bind_ok (getObj_run h4)]
      simp only
      rw [run_bind_ok (KP.check w _ _ hk)]
      rw [run_bind_ok f1]
      simp only
      rw [run_bind_ok z1,run_bind_ok k1,Mp.idx_no f3,← hsz,← hbn.1]
      rfl
     ·rw [Mp.touch_no f3];simp [hsz]
     ·rw [Mp.touch_no f3] at hp
      rcases Nat.lt_or_ge i m.l.length with hi | hi
      ·rw [List.getElem?_append_left hi] at hp
       obtain ⟨en,cs,a1,a2,a3,a4⟩:=h6 i _ (encM_get hp)
       refine ⟨en,cs,?_,a2,a3,a4⟩
       rw [Array.getElem?_push,if_neg (by omega)];exact a1
      ·rw [List.getElem?_append_right hi] at hp
       have h0:i - m.l.length=0:=by
        have:=(List.getElem?_eq_some_iff.1 hp).1
        simp at this;omega
       rw [h0] at hp
       simp at hp
       subst hp
       refine ⟨{ key:=ek q,val:=zv,born:=clock },[zv],?_,rfl,?_,?_⟩
       ·rw [Array.getElem?_push,if_pos (by omega)]
       ·rw [hz0];exact ⟨rfl,z2⟩
       ·rw [hz0];exact .v _ z2
    ·have hmem:q∈m.l.map (·.1):=List.mem_map.2 ⟨_,List.mem_of_getElem? f3,rfl⟩
     have htc:m.touch q z0=m:=by unfold Mp.touch;rw [if_pos hmem]
     obtain ⟨w',k1,k2,k3,k4⟩:=setObj_heap (P:=P) (es':=es.modify j fun (e:MapEntry)=>{ e with key:=ek q }) (clock':=clock) h4
     have hbj:=hbn.2 j en f2
     refine ⟨en.val,w',_,_,?_,k2,k3,k4,⟨?_,?_⟩,fun i p hp=>?_⟩
     ·unfold Instr.mapEntry
      rw [run_bind_ok (run_underlying (mt_of ht) w)]
      simp only
      rw [run_bind_ok (getObj_run h4)]
      simp only
      rw [run_bind_ok (KP.check w _ _ hk)]
      rw [run_bind_ok f1]
      simp only [f2,Option.map_some,Option.getD_some,f7]
      rw [run_bind_ok (KP.stays w _ hk),run_bind_ok k1,Mp.idx_of f3,hbj]
      rfl
     ·rw [htc];simp [hsz]
     ·refine ⟨by simp [hbn.1],fun i e he=>?_⟩
      rw [Array.getElem?_modify] at he
      split at he
      ·obtain ⟨e',q1,rfl⟩:=Option.map_eq_some_iff.1 he
       exact hbn.2 i e' q1
      ·exact hbn.2 i e he
     ·rw [htc] at hp
      obtain ⟨en',cs',a1,a2,a3,a4⟩:=h6 i _ (encM_get hp)
      by_cases hij:i=j
      ·subst hij
       rw [f3] at hp
       cases hp
       rw [f2] at a1
       cases a1
       exact ⟨{ en with key:=ek q },cs',by rw [Array.getElem?_modify,if_pos rfl,f2];rfl,rfl,a3,a4⟩
      ·exact ⟨en',cs',by rw [Array.getElem?_modify,if_neg (fun e=>hij e.symm)];exact a1,a2,a3,a4⟩
   obtain ⟨v,w',es',clock',k1,k2,k3,k4,⟨k5,kb⟩,k6⟩:=key
   have hexec:(execOp a.eval ⟨some d,.mapEntry t x1 x2,ty,pos,aft,gd⟩).run P w = .ok (.value (.tuple #[v,.int .i64 (m.idx q:Int)])) w':=by
    simp only [execOp,e1,e2]
    rw [run_bind_ok k1]
    rfl
   unfold Oper.wp
   rw [hexec]
   refine hK _ _ ⟨E,hs.write (o':=.map (encM ek ev (m.touch q z0))) ho hL rfl (by intro d' e;cases e;exact lt_ok hd) k4 (fun b' hb'=>k3 b' (fun e=>hb' (by rw [hbL,e]))) (fun hle=>?_) (fun _=>?_)⟩
   ·refine ⟨b,es',clock',hbL,k2,⟨by simp [encM,k5],kb⟩,fun i p hp=>?_⟩
    simp only [encM,List.getElem?_map,Option.map_eq_some_iff] at hp
    obtain ⟨p0,hp0,rfl⟩:=hp
    obtain ⟨en,cs,a1,a2,a3,a4⟩:=k6 i p0 hp0
    exact ⟨en,cs,a1,a2,a3,a4.mono hle⟩
   ·refine ⟨[v,.int .i64 (m.idx q:Int)],rfl,rfl,fun i x hx v' hv'=>?_⟩
    match i with
    | 0=>simp at hx hv';subst hx;subst hv';exact trivial
    | 1=>simp at hx hv';subst hx;subst hv';exact ⟨rfl,.v _ rfl⟩
    | i+2=>simp at hx
 ·rw [app_mk,foot_of]
  exact next
theorem enS {κ ν : Type} [DecidableEq κ] {ek : κ → Value} {ev : ν → AV} {m : Mp κ ν} {q : κ} {z v : ν} {t : TypeId} {s g : Nat} (hev : szOf (ev v) ≠ none) (hg : gdOp ops T gd = some gts) (h1 : evOp T x1 = some (.mp s g, ts1)) (h2 : evOp T x2 = some (.v (.int .i64 (m.idx q : Int)), ts2)) (h3 : evOp T x3 = some (ev v, ts3)) (hh : H.lookup s = some (some (g, .map (encM ek ev (m.touch q z)))))
    (next:RG P ops n c (k+1) rest (mk T ((s,some (g,.map (encM ek ev ((m.touch q z).set q v))))::H)) (⟨gts++(ts1++ts2++ts3),[s],[s]⟩::fs) K):RG P ops n c k (⟨none,.entryStore t x1 x2 x3,ty,pos,aft,gd⟩::rest) (mk T H) fs K:=by
 obtain ⟨x0,hx0⟩:=Mp.touch_idx m q z
 generalize hm':m.touch q z=m' at *
 generalize hi':m.idx q=j at *
 refine rg_core (r:=⟨(gts++(ts1++ts2++ts3)).map fun t=>(t,lookT T t),[(s,g,.map (encM ek ev m'))],.any,c+k,[(s,some (g,.map (encM ek ev (m'.set q v))))]⟩) (gd_of hg) rfl (by simpa using hook_of hh) rfl ?_ ?_
 ·intro base w0 F G E st a w Q K' hG hp hs hK
  have ho:=hp.reads (s,g,.map (encM ek ev m')) (by simp)
  obtain ⟨hgg,L,hL,hr⟩:=hs.live s g _ ho
  have hop:∀ x z ts,Ev T x z ts→(∀ t∈ts,t∈ts1++ts2++ts3)→VT (cx base F E G w) z (a.eval x):=fun x z ts hx hts=>hs.opd hp (opd_of rfl hx hts)
  obtain ⟨_,r1⟩:=hop x1 _ ts1 (ev_of h1) (by simp +contextual)
  have e2:=vt_v_eq (hop x2 _ ts2 (ev_of h2) (by simp +contextual))
  obtain ⟨cs3,l3,v3⟩:=vt_lay hev (hop x3 _ ts3 (ev_of h3) (by simp +contextual))
  generalize e1:a.eval x1=u at r1
  cases r1 with
  | mp _ _ b hG' hb =>
   obtain ⟨b',es,clock,e3,h4,⟨h5,hbn⟩,h6⟩:=hr
   have hbL:=hb L hL
   rw [hbL] at e3
   cases e3
   have h4:w.heap[b]? = some (.map es clock):=h4
   have hsz:es.size=m'.l.length:=by simpa [encM] using h5
   have hjl:=(List.getElem?_eq_some_iff.1 hx0).1
   obtain ⟨w',k1,k2,k3,k4⟩:=setObj_heap (P:=P) (es':=es.modify j fun (e:MapEntry)=>{ e with val:=a.eval x3 }) (clock':=clock) h4
   have hrun:(Instr.entryStore t (.map (some b)) (.int .i64 (j:Int)) (a.eval x3)).run P w = .ok () w':=by
    unfold Instr.entryStore
    simp only
    rw [run_bind_ok (getObj_run h4)]
    simp only
    rw [run_bind_ok (v:=(j:Int)) (w':=w) rfl,findIdx_born hbn (by omega)]
    exact k1
   have hexec:(execOp a.eval ⟨none,.entryStore t x1 x2 x3,ty,pos,aft,gd⟩).run P w = .ok .skip w':=by
    simp only [execOp,e1,e2]
    rw [run_bind_ok hrun]
    rfl
   unfold Oper.wp
   rw [hexec]
   have hmem:q∈m'.l.map (·.1):=List.mem_map.2 ⟨_,List.mem_of_getElem? hx0,rfl⟩
   refine hK _ _ ⟨E,hs.write (o':=.map (encM ek ev (m'.set q v))) ho hL rfl (by simp) k4 (fun b' hb'=>k3 b' (fun e=>hb' (by rw [hbL,e]))) (fun hle=>?_) (fun _=>VT.any _ _)⟩
   refine ⟨b,_,clock,hbL,k2,⟨by simp [encM,Mp.set,Mp.setL,hmem,hsz],?_⟩,fun i p hp=>?_⟩
   ·refine ⟨by simp [hbn.1],fun i e he=>?_⟩
    rw [Array.getElem?_modify] at he
    split at he
    ·obtain ⟨e',q1,rfl⟩:=Option.map_eq_some_iff.1 he
     exact hbn.2 i e' q1
    ·exact hbn.2 i e he
   ·simp only [encM,Mp.set,Mp.setL,if_pos hmem,List.getElem?_map,Option.map_eq_some_iff] at hp
    obtain ⟨p1,⟨p0,hp0,rfl⟩,rfl⟩:=hp
    obtain ⟨en',cs',a1,a2,a3,a4⟩:=h6 i _ (encM_get hp0)
    by_cases hij:i=j
    ·subst hij
     rw [hx0] at hp0
     cases hp0
     simp only [if_true]
     exact ⟨{ en' with val:=a.eval x3 },cs3,by rw [Array.getElem?_modify,if_pos rfl,a1];rfl,a2,l3,v3.mono hle⟩
    ·have hne:p0.1≠q:=by
      intro e
      have i1:(m'.l.map (·.1))[i]? = some q:=by simp [hp0,e]
      have i2:(m'.l.map (·.1))[j]? = some q:=by simp [hx0]
      exact hij ((List.getElem?_inj (List.getElem?_eq_some_iff.1 i1).1 m'.nd).1 (i1.trans i2.symm))
     simp only [if_neg hne]
     exact ⟨en',cs',by rw [Array.getElem?_modify,if_neg (fun e=>hij e.symm)];exact a1,a2,a3,a4.mono hle⟩
 ·rw [app_mk0,foot_of]
  exact next
end
end Go.Ar
namespace Go.Ar
open Go.RowKit
section
variable {X : Run} {cl : Nat} {T : TL} {H : HL} {Φ : Act → World → Prop}
theorem elemF {α : Type} {f : α → AV} {l : List α} (s s' j : Nat) {g g' k sz : Nat} {c : Bool} {cs : List AV} (hh : H.lookup s = some (some (g, .buf k cs))) (hc : cs[j]? = some (.own s' g' sz 0 l.length c)) (hh' : H.lookup s' = some (some (g', .buf sz (l.map f)))) (hp : ∀ a, Pu (f a)) (hne : Nat.beq s s' = false)
    (h:At X cl (mk T ((s,some (g,.buf k (cs.set j (.lst false sz (l.map f)))))::(s',none)::H)) Φ):At X cl (mk T H) Φ:=by
 have hne:s≠s':=Nat.ne_of_beq_eq_false hne
 rintro a w ⟨E,hs⟩
 let E':Nat→Nat→Option Loc:=fun u g=>if u=s' then none else E u g
 have hE':∀ u g L,E' u g=some L→u≠s'∧E u g=some L:=by
  intro u g L hh
  simp only [E'] at hh
  split at hh
  ·cases hh
  ·exact ⟨‹_›,hh⟩
 have ho':(mk T H).obj s' g'=some (.buf sz (l.map f)):=(hook_of hh').obj
 have ho:(mk T H).obj s g=some (.buf k cs):=(hook_of hh).obj
 have hl:∀ u,lookH ((s,some (g,Ob.buf k (cs.set j (.lst false sz (l.map f)))))::(s',none)::H) u=if u=s then some (g,Ob.buf k (cs.set j (.lst false sz (l.map f)))) else if u=s' then none else lookH H u:=by
  intro u
  unfold lookH
  by_cases e:u=s
  ·subst e;simp [List.lookup]
  ·have e1:(u == s)=false:=by simpa using e
   by_cases e2:u=s'
   ·subst e2;simp [List.lookup,e1,e]
   ·have e3:(u == s')=false:=by simpa using e2
    simp [List.lookup,e1,e,e2,e3]
 have hlo:lookH H s=some (g,.buf k cs):=by simp [lookH,hh]
 have hobj:∀ u g1,(mk T ((s,some (g,Ob.buf k (cs.set j (.lst false sz (l.map f)))))::(s',none)::H)).obj u g1=if u=s then (if g=g1 then some (Ob.buf k (cs.set j (.lst false sz (l.map f)))) else none) else if u=s' then none else (mk T H).obj u g1:=by
  intro u g1
  unfold St.obj mk
  simp only [hl]
  by_cases e:u=s
  ·simp [e]
  ·by_cases e2:u=s'
   ·subst e2;simp [e]
   ·simp [e,e2]
 have hle:(cx X.base X.F E (· < cl) w).Le (cx X.base X.F E' (· < cl) w):=by
  refine ⟨fun s g L _ hh=>(hE' s g L hh).2,fun _ hh=>hh,fun nw b hB=>⟨⟨hB.1,?_,hB.2.2⟩,rfl⟩⟩
  rintro ⟨s,g,L,e1,e2⟩
  exact hB.2.1 ⟨s,g,L,(hE' s g L e1).2,e2⟩
 have hrn:Cx.Rn [] [(s',g',.buf sz (l.map f))] (cx X.base X.F E (· < cl) w) (cx X.base X.F E' (· < cl) w):=by
  refine ⟨by simp,by simp,fun b hb=>(hle.B _ _ hb).1,rfl,fun z hz=>?_⟩
  simp only [List.mem_singleton] at hz
  subst hz
  obtain ⟨_,L,hL,hob⟩:=hs.live _ _ _ ho'
  refine ⟨L,hL,hob,fun b hb=>?_⟩
  have hf:=hs.far _ _ _ _ hL hb
  refine ⟨hf.2,?_,?_⟩
  ·rintro ⟨s2,g2,L',e1,e2⟩
   obtain ⟨k1,k2⟩:=hE' s2 g2 L' e1
   have:=hs.inj _ _ _ _ _ _ b hL k2 hb e2
   exact k1 this.1.symm
  ·rcases hf.1 with k | k
   ·exact .inl k
   ·exact .inr (.inl k)
 refine h a w ⟨E',hs.defers,hs.size,hs.glob,hs.below,hs.keep,hs.old,hs.bsz,?_,?_,?_,?_,hs.g0,fun s L hh=>hs.init s L (hE' _ _ _ hh).2,fun t=>(hs.tmps t).mono hle⟩
 ·intro u g1 hh1
  rw [hobj] at hh1
  simp only [E']
  by_cases e2:u=s'
  ·rw [if_pos e2]
  ·rw [if_neg e2]
   refine hs.dead u g1 ?_
   by_cases e:u=s
   ·subst e
    rw [if_pos rfl] at hh1
    split at hh1
    ·cases hh1
    ·rename_i e;unfold St.obj mk;simp only [hlo,if_neg e]
   ·rw [if_neg e,if_neg e2] at hh1;exact hh1
 ·intro u g1 o hh1
  rw [hobj] at hh1
  by_cases e:u=s
  ·subst e
   rw [if_pos rfl] at hh1
   split at hh1
   ·rename_i e
    cases hh1;subst e
    obtain ⟨hg,L,hL,hr⟩:=hs.live _ _ _ ho
    refine ⟨hg,L,by simp only [E',if_neg hne];exact hL,?_⟩
    obtain ⟨q1,q2⟩:=hr
    refine ⟨q1,?_⟩
    revert q2
    cases L.blk with
    | none=>intro q2;have q2:cs=[]:=q2;subst q2;simp at hc
    | some b =>
     rintro ⟨arr,t,a1,a2,a3,a4⟩
     refine ⟨arr,t,a1,a2,by simpa using a3,fun i z hz=>?_⟩
     rw [List.getElem?_set] at hz
     split at hz
     ·rename_i e
      subst e
      split at hz
      ·cases hz
       obtain ⟨vs,b1,b2,b3⟩:=a4 j _ hc
       exact ⟨vs,b1,(rn_own (σ:=[]) (Z:=[(s',g',.buf sz (l.map f))]) (by simp) (pu_map hp l) (by simp)).vr hrn b2,b3⟩
      ·cases hz
     ·obtain ⟨vs,b1,b2,b3⟩:=a4 i z hz
      exact ⟨vs,b1,b2.mono hle,b3⟩
   ·cases hh1
  ·rw [if_neg e] at hh1
   split at hh1
   ·cases hh1
   ·rename_i e2
    obtain ⟨hg,L,hL,hr⟩:=hs.live u g1 o hh1
    exact ⟨hg,L,by simp only [E',if_neg e2];exact hL,hr.mono hle fun _ _=>rfl⟩
 ·intro s g L b e1 e2;exact hs.far s g L b (hE' _ _ _ e1).2 e2
 ·intro s g s' g' L L' b e1 e2 e3 e4;exact hs.inj s g s' g' L L' b (hE' _ _ _ e1).2 (hE' _ _ _ e2).2 e3 e4
theorem openR {α : Type} {f : α → AV} {l : List (Option (List α))} (s s' i sz : Nat) {g k : Nat} (hh : H.lookup s = some (some (g, .buf k (l.map (NL sz f))))) (hi : l[i]? = some none) (hne : Nat.beq s s' = false)
    (h:At X (cl+1) (mk T ((s,some (g,.buf k ((l.map (NL sz f)).set i (.own s' cl sz 0 ([]:List α).length false))))::(s',some (cl,.buf sz (([]:List α).map f)))::H)) Φ):At X cl (mk T H) Φ:=by
 have hne:s≠s':=Nat.ne_of_beq_eq_false hne
 rintro a w ⟨E,hs⟩
 have h1:=hs.make (dst:=none) (v:=undef) (w':=w) (r:=⟨[],[],.any,cl,[(s',some (cl,.buf sz []))]⟩) (s:=s') (o:=.buf sz []) (ks:=[]) (L:=⟨none,sz,0⟩) (Nat.lt_irrefl cl) rfl (by intro d e;cases e) (Below.refl _ _)
  (by intro b hb;cases hb) (fun _ _ _=>rfl) (fun E' _ _=>⟨rfl,rfl⟩) (fun E' _ _=>VT.any _ _)
 rw [app_mk0] at h1
 obtain ⟨E1,h1⟩:=h1
 have ho:(mk T ([(s',some (cl,Ob.buf sz []))]++H)).obj s g=some (.buf k (l.map (NL sz f))):=(Hook.there s' _ H s g _ hne (hook_of hh)).obj
 obtain ⟨hg,L,hL,hr⟩:=h1.live s g _ ho
 have h2:=h1.write (dst:=none) (v:=undef) (w':=w) (r:=⟨[],[],.any,cl,[(s,some (g,.buf k ((l.map (NL sz f)).set i (.own s' cl sz 0 0 false))))]⟩) (o':=.buf k ((l.map (NL sz f)).set i (.own s' cl sz 0 0 false))) ho hL rfl (by intro d e;cases e) (Below.refl _ _) (fun _ _=>rfl)
  (fun hle=>ObR.setElem (e:=.v (.slice none 0 0)) (by simp [hi,NL]) (fun vs hv=>by
   cases hv
   exact .own _ _ _ _ _ _ none 0 (.inr rfl) (by simp) (by simp) (by simp)) (hr.mono hle fun _ _=>rfl)) (fun _=>VT.any _ _)
 rw [app_mk0] at h2
 exact h a w ⟨E1,h2.more fun g hg=>by
  show g < cl+1
  rcases hg with (hg | hg) | hg
  ·exact Nat.lt_succ_of_lt hg
  ·have hg:g=cl:=hg;omega
  ·have hg:g=cl:=hg;omega⟩
theorem closeR {α : Type} {f : α → AV} {l : List (Option (List α))} {r : List α} (s s' i : Nat) {g g' k sz : Nat} {b : Bool} (hh : H.lookup s = some (some (g, .buf k ((l.map (NL sz f)).set i (.own s' g' sz 0 r.length b))))) (hi : i < l.length) (hh' : H.lookup s' = some (some (g', .buf sz (r.map f)))) (hp : ∀ a, Pu (f a)) (hne : Nat.beq s s' = false)
    (h:At X cl (mk T ((s,some (g,.buf k ((l.set i (some r)).map (NL sz f))))::(s',none)::H)) Φ):At X cl (mk T H) Φ:=by
 refine elemF (f:=f) (l:=r) s s' i hh (List.getElem?_set_self (by simpa using hi)) hh' hp hne ?_
 rw [List.set_set]
 have e:(l.set i (some r)).map (NL sz f)=(l.map (NL sz f)).set i (.lst false sz (r.map f)):=by rw [List.map_set];rfl
 rw [← e]
 exact h
end
section
variable {P : Program} {ops : Array Oper} {n : Nn} {c k : Nat} {rest : List Oper} {T : TL} {H : HL} {fs : List Foot} {K : List Foot → St → Prop}
variable {d ty : Nat} {pos : String} {aft : Array Edge} {gd : Option (Nat × Bool)} {gts ts ts0 ts1 ts2 ts3 : List Nat} {x x1 x2 x3 : Operand} {y y1 y2 : AV}
theorem ldR {α : Type} {f : α → AV} {l : List (Option (List α))} {t : TypeId} {s g i k k' s' g' sz m : Nat} {b : Bool} (ht : tk P t = some (false, 1)) (hi : i < l.length) (hg : gdOp ops T gd = some gts) (hx : evOp T x = some (.ptr s g i 0, ts)) (hh : H.lookup s = some (some (g, .buf k ((l.map (NL sz f)).set i (.own s' g' sz 0 m b))))) (hd : Nat.blt d n.n = true)
    (next:RG P ops n c (k'+1) rest (mk ((d,.own s' g' sz 0 m b)::T) H) (⟨gts++ts,[s],[]⟩::fs) K):RG P ops n c k' (⟨some d,.load t x,ty,pos,aft,gd⟩::rest) (mk T H) fs K :=
 ld ht hg hx hh (List.getElem?_set_self (by simpa using hi)) rfl hd next
theorem stR {α : Type} {f : α → AV} {l : List (Option (List α))} {t : TypeId} {s g i k k' s' g' sz m s2 g2 m2 : Nat} {b b2 : Bool} (ht : tk P t = some (false, 1)) (hi : i < l.length) (hg : gdOp ops T gd = some gts) (h1 : evOp T x1 = some (.ptr s g i 0, ts1)) (h2 : evOp T x2 = some (.own s2 g2 sz 0 m2 b2, ts2)) (hh : H.lookup s = some (some (g, .buf k ((l.map (NL sz f)).set i (.own s' g' sz 0 m b)))))
    (next:RG P ops n c (k'+1) rest (mk T ((s,some (g,.buf k ((l.map (NL sz f)).set i (.own s2 g2 sz 0 m2 b2))))::H)) (⟨gts++(ts1++ts2),[s],[s]⟩::fs) K):RG P ops n c k' (⟨none,.store t x1 x2,ty,pos,aft,gd⟩::rest) (mk T H) fs K :=
 str ht hg h1 h2 hh rfl (List.getElem?_set_self (by simpa using hi)) rfl (by rw [List.set_set];exact next)
end
end Go.Ar
namespace Go.Ar
open Go.RowKit
namespace Mp
variable {κ ν : Type} [DecidableEq κ]
theorem ext' {m m':Mp κ ν} (h:m.l=m'.l):m=m':=by cases m;cases m';simp at h;subst h;rfl
theorem set_l (m:Mp κ ν) (k:κ) (v:ν) (i:Nat):(m.set k v).l[i]? = if i=m.idx k then some (k,v) else m.l[i]?:=by
 by_cases h:k∈m.l.map (·.1)
 ·obtain ⟨p,hp,e⟩:=List.mem_map.1 h
  obtain ⟨j,hj⟩:=List.mem_iff_getElem?.1 hp
  obtain ⟨p1,p2⟩:=p
  simp only at e
  subst e
  rw [idx_of hj]
  simp only [set,setL,if_pos h,List.getElem?_map]
  by_cases e:i=j
  ·subst e;rw [hj];simp
  ·rw [if_neg e]
   cases hi:m.l[i]? with
   | none=>rfl
   | some q =>
    have hne:q.1≠p1:=by
     intro e2
     have i1:(m.l.map (·.1))[i]? = some p1:=by simp [hi,e2]
     have i2:(m.l.map (·.1))[j]? = some p1:=by simp [hj]
     exact e ((List.getElem?_inj (List.getElem?_eq_some_iff.1 i1).1 m.nd).1 (i1.trans i2.symm))
    simp [hne]
 ·rw [idx_no h]
  simp only [set,setL,if_neg h]
  by_cases e:i=m.l.length
  ·subst e;simp
  ·rw [if_neg e]
   rcases Nat.lt_or_ge i m.l.length with hi | hi
   ·rw [List.getElem?_append_left hi]
   ·rw [List.getElem?_append_right hi,List.getElem?_eq_none hi]
    have:i - m.l.length≠0:=by omega
    simp [List.getElem?_eq_none_iff];omega
theorem get_idx {m:Mp κ ν}{k:κ}{x:ν} (h:m.get? k=some x):m.l[m.idx k]? = some (k,x):=by
 have hm:k∈m.l.map (·.1):=by
  refine Classical.byContradiction fun hn=>?_
  have:m.get? k=none:=lookup_none fun p hp e=>hn (List.mem_map.2 ⟨p,hp,e⟩)
  rw [this] at h;cases h
 obtain ⟨p,hp,e⟩:=List.mem_map.1 hm
 obtain ⟨j,hj⟩:=List.mem_iff_getElem?.1 hp
 obtain ⟨p1,p2⟩:=p
 simp only at e
 subst e
 rw [idx_of hj,hj]
 have:=lookup_of m.nd hj
 unfold get? at h
 rw [this] at h
 cases h
 rfl
theorem get_of {m:Mp κ ν}{k:κ}{x:ν}{i:Nat} (h:m.l[i]? = some (k,x)):m.get? k=some x:=lookup_of m.nd h
end Mp
def evR (sz:Nat) (x:Nat × Nat × Nat):AV:=.own x.1 x.2.1 sz 0 x.2.2 false
def mG {α:Type} (R:Nat) (m:Mp Int (List α)) (G:Nat→Nat):Mp Int (Nat × Nat × Nat) :=
 ⟨m.l.zipIdx.map fun p=>(p.1.1,(p.2+R,G p.2,p.1.2.length)),by
  have:(m.l.zipIdx.map fun p=>(p.1.1,(p.2+R,G p.2,p.1.2.length))).map (·.1)=m.l.map (·.1):=by
   rw [List.map_map]
   refine List.ext_getElem? fun i=>?_
   simp [List.getElem?_zipIdx]
   cases m.l[i]? <;> simp
  rw [this];exact m.nd⟩
def rowsH {α:Type} (f:α→AV) (sz R:Nat) (m:Mp Int (List α)) (G:Nat→Nat):HL:=m.l.zipIdx.map fun p=>(p.2+R,some (G p.2,Ob.buf sz (p.1.2.map f)))
def updG (G:Nat→Nat) (j g:Nat):Nat→Nat:=fun i=>if i=j then g else G i
section
variable {α : Type} {f : α → AV} {sz R : Nat} {m : Mp Int (List α)} {G : Nat → Nat}
theorem mG_l (i:Nat):(mG R m G).l[i]? = (m.l[i]?).map fun p=>(p.1,(i+R,G i,p.2.length)):=by
 simp only [mG,List.getElem?_map,List.getElem?_zipIdx]
 cases m.l[i]? <;> simp
theorem mG_keys:(mG R m G).l.map (·.1)=m.l.map (·.1):=by
 refine List.ext_getElem? fun i=>?_
 rw [List.getElem?_map,mG_l,List.getElem?_map]
 cases m.l[i]? <;> simp
theorem mG_idx (k:Int):(mG R m G).idx k=m.idx k:=by
 by_cases h:k∈m.l.map (·.1)
 ·obtain ⟨p,hp,e⟩:=List.mem_map.1 h
  obtain ⟨j,hj⟩:=List.mem_iff_getElem?.1 hp
  obtain ⟨p1,p2⟩:=p
  simp only at e
  subst e
  rw [Mp.idx_of hj]
  exact Mp.idx_of (x:=(j+R,G j,p2.length)) (by rw [mG_l,hj];rfl)
 ·rw [Mp.idx_no h,Mp.idx_no (by rw [mG_keys];exact h)]
  simp [mG]
theorem mG_none {k:Int} (h:m.get? k=none):(mG R m G).get? k=none:=by
 cases h2:(mG R m G).get? k with
 | none=>rfl
 | some x =>
  have:=Mp.get_idx h2
  rw [mG_l] at this
  obtain ⟨p,hp,e⟩:=Option.map_eq_some_iff.1 this
  have e1:p.1=k:=congrArg (·.1) e
  obtain ⟨p1,p2⟩:=p
  simp only at e1
  subst e1
  rw [Mp.get_of hp] at h
  cases h
theorem mG_some {k:Int}{r:List α} (h:m.get? k=some r):(mG R m G).get? k=some (m.idx k+R,G (m.idx k),r.length):=by
 refine Mp.get_of (i:=m.idx k) ?_
 rw [mG_l,Mp.get_idx h];rfl
theorem mG_set (k:Int) (g':Nat) (r':List α):(mG R m G).set k (m.idx k+R,g',r'.length)=mG R (m.set k r') (updG G (m.idx k) g'):=by
 refine Mp.ext' (List.ext_getElem? fun i=>?_)
 rw [Mp.set_l,mG_idx,mG_l,mG_l,Mp.set_l]
 by_cases e:i=m.idx k
 ·subst e;simp [updG]
 ·simp [e,updG]
theorem mG_ob {ek:Int→Value} (k:Int) (g':Nat) (r':List α):Ob.map (encM ek (evR sz) ((mG R m G).set k (m.idx k+R,g',r'.length)))=Ob.map (encM ek (evR sz) (mG R (m.set k r') (updG G (m.idx k) g'))):=by rw [mG_set]
theorem rows_lookup:∀ (xs:List (Int × List α)) (st:Nat) (s:Nat),((xs.zipIdx st).map fun p=>(p.2+R,some (G p.2,Ob.buf sz (p.1.2.map f)))).lookup s=if st+R≤s then (xs[s - (st+R)]?).map fun p=>some (G (s - R),Ob.buf sz (p.2.map f)) else none:=by
 intro xs
 induction xs with
 | nil=>intro st s;simp
 | cons x xs ih =>
  intro st s
  simp only [List.zipIdx_cons,List.map_cons,List.lookup]
  by_cases e:s=st+R
  ·subst e
   simp
  ·have e':(s == st+R)=false:=by simpa using e
   rw [e',ih]
   by_cases h:st+R≤s
   ·rw [if_pos h,if_pos (by omega),show s - (st+R)=(s - (st+1+R))+1 from by omega,List.getElem?_cons_succ]
   ·rw [if_neg h,if_neg (by omega)]
theorem rows_look {i:Nat}{p:Int × List α} (h:m.l[i]? = some p):(rowsH f sz R m G).lookup (i+R)=some (some (G i,.buf sz (p.2.map f))):=by
 unfold rowsH
 rw [rows_lookup,if_pos (by omega)]
 simp only [Nat.zero_add,Nat.add_sub_cancel,h,Option.map_some]
theorem HooksT.app {H L1 L2:HL} (h1:HooksT H L1) (h2:HooksT H L2):HooksT H (L1++L2):=by
 induction h1 with
 | nil=>exact h2
 | cons s g o o' H' a b _ ih=>exact .cons s g o o' _ a b ih
theorem hooksRows {H:HL} (h:∀ i p,m.l[i]? = some p→H.lookup (i+R)=some (some (G i,.buf sz (p.2.map f)))):HooksT H (rowsH f sz R m G):=by
 have key:∀ (xs:List (Int × List α)) (st:Nat),(∀ i p,xs[i]? = some p→H.lookup (st+i+R)=some (some (G (st+i),.buf sz (p.2.map f))))→HooksT H ((xs.zipIdx st).map fun p=>(p.2+R,some (G p.2,Ob.buf sz (p.1.2.map f)))):=by
  intro xs
  induction xs with
  | nil=>intro st _;exact .nil
  | cons x xs ih =>
   intro st h
   simp only [List.zipIdx_cons,List.map_cons]
   refine .cons _ _ _ _ _ (by have:=h 0 x rfl;simpa using this) rfl (ih (st+1) fun i p hp=>?_)
   have:=h (i+1) p (by simpa using hp)
   rw [show st+(i+1)=st+1+i from by omega] at this
   exact this
 have:=key m.l 0 (by intro i p hp;rw [Nat.zero_add];exact h i p hp)
 simpa [rowsH] using this
theorem rowsUpd {H:HL}{k:Int}{g':Nat}{r':List α} (hj:H.lookup (m.idx k+R)=some (some (g',.buf sz (r'.map f)))) (ho:∀ i p,i≠m.idx k→m.l[i]? = some p→H.lookup (i+R)=some (some (G i,.buf sz (p.2.map f)))):HooksT H (rowsH f sz R (m.set k r') (updG G (m.idx k) g')) :=
 hooksRows fun i p hp=>by
  rw [Mp.set_l] at hp
  by_cases e:i=m.idx k
  ·subst e
   rw [if_pos rfl] at hp
   cases hp
   simpa [updG] using hj
  ·rw [if_neg e] at hp
   simpa [updG,e] using ho i p e hp
end
end Go.Ar
namespace Go.Ar
open Go.RowKit
section
variable {P : Program} {ops : Array Oper} {n : Nn} {c k : Nat} {rest : List Oper} {T : TL} {H : HL} {fs : List Foot} {K : List Foot → St → Prop}
theorem rg_lookupS {d ty : Nat} {pos : String} {aft : Array Edge} {gd : Option (Nat × Bool)} {gts ts1 ts2 : List Nat} {t kt e : TypeId} {x1 x2 : Operand} {s g : Nat} {κ ν : Type} [DecidableEq κ] {ek : κ → Value} {ev : ν → AV} {m : Mp κ ν} {q : κ} {yk : AV} {ok : Value → Prop} {z0 : ν} {zv : Value} (KP : KeyP P kt ok) (hinj : ∀ a b, ek a = ek b → a = b) (hgd : Gd ops T gd gts)
    (h1:Ev T x1 (.mp s g) ts1) (h2:Ev T x2 yk ts2) (hg:ground yk=some (ek q)) (hh:Hook H s g (.map (encM ek ev m))) (ht:mt P t=some (kt,e)) (hok:∀ p∈m.l,ok (ek p.1)) (hk:ok (ek q)) (hz:zo P e=some zv) (hget:m.get? q=some z0) (hev:∀ x,szOf (ev x)≠none) (hd:d < n.n)
    (next:RG P ops n c (k+1) rest (mk ((d,ev z0)::T) H) (⟨gts++(ts1++ts2),[s],[]⟩::fs) K):RG P ops n c k (⟨some d,.lookup t x1 x2 false,ty,pos,aft,gd⟩::rest) (mk T H) fs K :=
 rg_read rfl hd hgd hh (fun C a w L hw hL hr hop hB=>by
  obtain ⟨_,r1⟩:=hop x1 _ ts1 h1 (by simp +contextual)
  have e2:=vt_ground hg (hop x2 _ ts2 h2 (by simp +contextual))
  generalize e1:a.eval x1=u at r1
  cases r1 with
  | mp _ _ b hG hb =>
   obtain ⟨b',es,clock,e3,h4,⟨h5,_⟩,h6⟩:=hr
   rw [hb L hL] at e3
   cases e3
   rw [hw] at h4
   obtain ⟨z1,z2⟩:=zo_run hz w
   have hex:∀ v,(Instr.lookup t (.map (some b)) (ek q) false).run P w = .ok v w→(execOp a.eval ⟨some d,.lookup t x1 x2 false,ty,pos,aft,gd⟩).run P w = .ok (.value v) w:=by
    intro v hv
    simp only [execOp,e1,e2]
    rw [run_bind_ok hv]
    rfl
   rcases find_run KP hinj (m:=m) (ev:=ev) (C:=C) (by simpa [encM] using h5) (fun i p hp=>h6 i _ (encM_get hp)) hok hk w with ⟨f1,f2,_⟩ | ⟨j,en,x,cs,f1,f2,_,f3,f4,f5,_⟩
   ·rw [f2] at hget;cases hget
   ·refine ⟨_,hex _ (lookup_run KP ht hk z1 h4 f1 false),?_⟩
    rw [f3] at hget
    cases hget
    exact lay_vt (hev _) f4 f5) next
theorem rg_lookupN {d ty : Nat} {pos : String} {aft : Array Edge} {gd : Option (Nat × Bool)} {gts ts1 ts2 : List Nat} {t kt e : TypeId} {x1 x2 : Operand} {s g : Nat} {κ ν : Type} [DecidableEq κ] {ek : κ → Value} {ev : ν → AV} {m : Mp κ ν} {q : κ} {yk : AV} {ok : Value → Prop} {zv : Value} (KP : KeyP P kt ok) (hinj : ∀ a b, ek a = ek b → a = b) (hgd : Gd ops T gd gts)
    (h1:Ev T x1 (.mp s g) ts1) (h2:Ev T x2 yk ts2) (hg:ground yk=some (ek q)) (hh:Hook H s g (.map (encM ek ev m))) (ht:mt P t=some (kt,e)) (hok:∀ p∈m.l,ok (ek p.1)) (hk:ok (ek q)) (hz:zo P e=some zv) (hget:m.get? q=none) (hd:d < n.n)
    (next:RG P ops n c (k+1) rest (mk ((d,.v zv)::T) H) (⟨gts++(ts1++ts2),[s],[]⟩::fs) K):RG P ops n c k (⟨some d,.lookup t x1 x2 false,ty,pos,aft,gd⟩::rest) (mk T H) fs K :=
 rg_read rfl hd hgd hh (fun C a w L hw hL hr hop hB=>by
  obtain ⟨_,r1⟩:=hop x1 _ ts1 h1 (by simp +contextual)
  have e2:=vt_ground hg (hop x2 _ ts2 h2 (by simp +contextual))
  generalize e1:a.eval x1=u at r1
  cases r1 with
  | mp _ _ b hG hb =>
   obtain ⟨b',es,clock,e3,h4,⟨h5,_⟩,h6⟩:=hr
   rw [hb L hL] at e3
   cases e3
   rw [hw] at h4
   obtain ⟨z1,z2⟩:=zo_run hz w
   have hex:∀ v,(Instr.lookup t (.map (some b)) (ek q) false).run P w = .ok v w→(execOp a.eval ⟨some d,.lookup t x1 x2 false,ty,pos,aft,gd⟩).run P w = .ok (.value v) w:=by
    intro v hv
    simp only [execOp,e1,e2]
    rw [run_bind_ok hv]
    rfl
   rcases find_run KP hinj (m:=m) (ev:=ev) (C:=C) (by simpa [encM] using h5) (fun i p hp=>h6 i _ (encM_get hp)) hok hk w with ⟨f1,f2,_⟩ | ⟨j,en,x,cs,f1,f2,_,f3,f4,f5,_⟩
   ·refine ⟨_,hex _ (lookup_run KP ht hk z1 h4 f1 false),?_⟩
    exact vt_v z2
   ·rw [f3] at hget;cases hget) next
variable {d ty : Nat} {pos : String} {aft : Array Edge} {gd : Option (Nat × Bool)} {gts ts ts0 ts1 ts2 ts3 : List Nat} {x x1 x2 x3 : Operand} {y y1 y2 : AV}
theorem lkRS {α : Type} {m : Mp Int (List α)} {G : Nat → Nat} {q : Int} {r : List α} {t kt e : TypeId} {s g sz R : Nat} {zv : Value} {yk : AV} (hk : KeyE P kt (Value.int .i64)) (ht : mt P t = some (kt, e)) (hz : zo P e = some zv) (hget : m.get? q = some r) (hg : gdOp ops T gd = some gts) (h1 : evOp T x1 = some (.mp s g, ts1)) (h2 : evOp T x2 = some (yk, ts2)) (hq : ground yk = some (Value.int .i64 q)) (hh : H.lookup s = some (some (g, .map (encM (Value.int .i64) (evR sz) (mG R m G))))) (hd : Nat.blt d n.n = true)
    (next:RG P ops n c (k+1) rest (mk ((d,.own (m.idx q+R) (G (m.idx q)) sz 0 r.length false)::T) H) (⟨gts++(ts1++ts2),[s],[]⟩::fs) K):RG P ops n c k (⟨some d,.lookup t x1 x2 false,ty,pos,aft,gd⟩::rest) (mk T H) fs K:=by
 obtain ⟨ok,K1,K2⟩:=hk.key
 exact rg_lookupS (z0:=(m.idx q+R,G (m.idx q),r.length)) K1 hk.inj (gd_of hg) (ev_of h1) (ev_of h2) hq (hook_of hh) ht (fun _ _=>K2 _) (K2 _) hz (mG_some hget) (fun _=>Option.some_ne_none _) (lt_ok hd) next
theorem lkRN {α : Type} {m : Mp Int (List α)} {G : Nat → Nat} {q : Int} {t kt e : TypeId} {s g sz R : Nat} {zv : Value} {yk : AV} (hk : KeyE P kt (Value.int .i64)) (ht : mt P t = some (kt, e)) (hz : zo P e = some zv) (hget : m.get? q = none) (hg : gdOp ops T gd = some gts) (h1 : evOp T x1 = some (.mp s g, ts1)) (h2 : evOp T x2 = some (yk, ts2)) (hq : ground yk = some (Value.int .i64 q)) (hh : H.lookup s = some (some (g, .map (encM (Value.int .i64) (evR sz) (mG R m G))))) (hd : Nat.blt d n.n = true)
    (next:RG P ops n c (k+1) rest (mk ((d,.v zv)::T) H) (⟨gts++(ts1++ts2),[s],[]⟩::fs) K):RG P ops n c k (⟨some d,.lookup t x1 x2 false,ty,pos,aft,gd⟩::rest) (mk T H) fs K:=by
 obtain ⟨ok,K1,K2⟩:=hk.key
 exact rg_lookupN K1 hk.inj (gd_of hg) (ev_of h1) (ev_of h2) hq (hook_of hh) ht (fun _ _=>K2 _) (K2 _) hz (mG_none hget) (lt_ok hd) next
theorem upR {α : Type} {m : Mp Int (List α)} {G : Nat → Nat} {q : Int} {t kt e : TypeId} {s g sz R s1 g1 n1 : Nat} {yk : AV} (hk : KeyE P kt (Value.int .i64)) (ht : mt P t = some (kt, e)) (hg : gdOp ops T gd = some gts) (h1 : evOp T x1 = some (.mp s g, ts1)) (h2 : evOp T x2 = some (yk, ts2)) (h3 : evOp T x3 = some (.own s1 g1 sz 0 n1 false, ts3)) (hq : ground yk = some (Value.int .i64 q)) (hh : H.lookup s = some (some (g, .map (encM (Value.int .i64) (evR sz) (mG R m G)))))
    (next:RG P ops n c (k+1) rest (mk T ((s,some (g,.map (encM (Value.int .i64) (evR sz) ((mG R m G).set q (s1,g1,n1)))))::H)) (⟨gts++(ts1++ts2++ts3),[s],[s]⟩::fs) K):RG P ops n c k (⟨none,.mapUpdate t x1 x2 x3,ty,pos,aft,gd⟩::rest) (mk T H) fs K:=by
 obtain ⟨ok,K1,K2⟩:=hk.key
 exact rg_mapUpdate (v:=(s1,g1,n1)) K1 hk.inj (gd_of hg) (ev_of h1) (ev_of h2) (ev_of h3) hq (hook_of hh) ht (fun _ _=>K2 _) (K2 _) (Option.some_ne_none _) rfl next
theorem mkR {α : Type} (sz R : Nat) (G : Nat → Nat) (s : Nat) {t : TypeId} (hg : gdOp ops T gd = some gts) (hd : Nat.blt d n.n = true)
    (next:RG P ops n c (k+1) rest (mk ((d,.mp s (c+k))::T) ((s,some (c+k,.map (encM (Value.int .i64) (evR sz) (mG R (Mp.empty:Mp Int (List α)) G))))::H)) (⟨gts++[],[],[s]⟩::fs) K):RG P ops n c k (⟨some d,.makeMap t none,ty,pos,aft,gd⟩::rest) (mk T H) fs K:=rg_makeMap (gd_of hg) (lt_ok hd) next
theorem apN {α : Type} {f : α → AV} {zs : List α} (s : Nat) {t e : TypeId} {sz by_ s2 g2 : Nat} {cl2 : Bool} {zv : List Value} (ht : se P t = some (e, sz, zv, by_)) (h0 : 0 < zs.length) (hby : zs.length * by_ ≤ 140737488355328) (hsm : zs.length ≤ 140737488355328) (hg : gdOp ops T gd = some gts) (h1 : evOp T x1 = some (.v (.slice none 0 0), ts1)) (h2 : evOp T x2 = some (.own s2 g2 sz 0 zs.length cl2, ts2)) (hh2 : H.lookup s2 = some (some (g2, .buf sz (zs.map f)))) (hd : Nat.blt d n.n = true)
    (next:RG P ops n c (k+1) rest (mk ((d,.own s (c+k) sz 0 zs.length false)::T) ((s,some (c+k,.buf sz (zs.map f)))::H)) (⟨gts++(ts1++ts2),[s2],[s]⟩::fs) K) :
    RG P ops n c k (⟨some d,.call ⟨.builtin .append,#[x1,x2],#[t,t]⟩,ty,pos,aft,gd⟩::rest) (mk T H) fs K:=by
 refine rg_core (r:=⟨(gts++(ts1++ts2)).map fun t=>(t,lookT T t),[(s2,g2,.buf sz (zs.map f))],.own s (c+k) sz 0 zs.length false,c+k,[(s,some (c+k,.buf sz (zs.map f)))]⟩) (gd_of hg) rfl (by simpa using hook_of hh2) rfl ?_ ?_
 ·intro base w0 F G E st a w Q K' hG hp hs hK
  have hop:∀ x z ts,Ev T x z ts→(∀ t∈ts,t∈ts1++ts2)→VT (cx base F E G w) z (a.eval x):=fun x z ts hx hts=>hs.opd hp (opd_of rfl hx hts)
  have e1:=vt_v_eq (hop x1 _ ts1 (ev_of h1) (by simp +contextual))
  obtain ⟨_,r2⟩:=hop x2 _ ts2 (ev_of h2) (by simp +contextual)
  obtain ⟨_,L,hL,hr⟩:=hs.live s2 g2 _ (hp.reads (s2,g2,.buf sz (zs.map f)) (by simp))
  obtain ⟨hu,i,z,hi,hz,hsz,hbyt,hzc,hzl,hpos,hall⟩:=se_parts ht
  obtain ⟨news,hsr,hel⟩:=src_own (P:=P) hu hL hr (by simp) r2
  have hlen:(((zs.map f).drop 0).take zs.length).length=zs.length:=by simp
  rw [hlen] at hsr
  have hel:Elems (cx base F E G w) sz (zs.map f) news:=by
   rw [List.drop_zero,List.take_of_length_le (by simp)] at hel
   exact hel
  have hsr:Src P sz t (a.eval x2) zs.length news w:=hsr
  have hrun:=run_append_grow_src (P:=P) w t t ty e i z hu hi hz none 0 0 [] rfl (a.eval x2) zs.length news (by rw [hsz];exact hsr) (by omega) (by omega) (growslice_fits (by omega) (by rw [hbyt,Nat.zero_add];exact hby))
  simp only [Nat.zero_add] at hrun
  unfold Oper.wp
  have hex:=call_run (P:=P) (o:=⟨some d,.call ⟨.builtin .append,#[x1,x2],#[t,t]⟩,ty,pos,aft,gd⟩) (a:=a) (w:=w) (xs:=[x1,x2]) (at_:=#[t,t]) rfl rfl (v:=.slice (some ⟨w.heap.size,0,none⟩) zs.length (grownCap w zs.length 0 e)) (fun consts=>by
   simp only [List.map_cons,List.map_nil,e1,builtin]
   rw [run_bind_ok hrun]
   rfl)
  rw [hex]
  have hge:=grownCap_ge w zs.length 0 e
  have hzs:z.cells.size=sz:=by rw [hzc];simpa using hzl
  have hal:news.length=zs.length * sz:=by rw [hel.len];simp
  have hsize:(([]++news:List Value).toArray++Builtin.zeroCells z.cells (grownCap w zs.length 0 e - zs.length)).size=grownCap w zs.length 0 e * sz:=by
   rw [Array.size_append,size_zeroCells,hzs,List.size_toArray,List.nil_append,hal,← Nat.add_mul]
   congr 1;omega
  refine hK _ _ (hs.make (s:=s) (o:=.buf sz (zs.map f)) (ks:=[]) (L:=⟨some w.heap.size,sz,grownCap w zs.length 0 e * sz⟩) hG rfl (by intro d' e;cases e;exact lt_ok hd) ((Below.refl _ _).drew.alloc (Nat.zero_le _) _) ?_ ?_ ?_ ?_)
  ·intro b' hb';cases hb';exact .inl ⟨Nat.le_refl _,by simp⟩
  ·intro b' hb' _;exact Below.heap_alloc w.drew _ b' (by simpa using hb')
  ·intro E' hle' _
   refine ob_of (b:=w.heap.size) (t:=e) (ns:=news) rfl rfl (heap_alloc_new w.drew _) hsize (hel.mono hle') ?_
   intro q u hq
   have:=(List.getElem?_eq_some_iff.1 hq).1
   rw [Array.getElem?_append_left (by simpa using this)]
   simpa using hq
  ·intro E' hle' hE'
   refine ⟨rfl,.own _ _ _ _ _ _ _ _ (.inr rfl) hge (by simp) fun _=>⟨_,_,rfl,fun L' hL'=>?_⟩⟩
   have hL':E' s (c+k)=some L':=hL'
   rw [hE'] at hL'
   cases hL'
   exact ⟨rfl,rfl,by simp,by simp⟩
 ·rw [app_mk,foot_of]
  exact next
end
end Go.Ar
namespace Go.Ar
open Go.RowKit
def rowP {α β:Type} (o:Option (List α)) (f:List α→Option β) (g:Option β):Option β:=match o with | some r=>f r | none=>g
theorem rowI {α β:Type}{o:Option (List α)}{f:List α→Option β}{g:Option β}{y:β} (h:rowP o f g=some y):(∃ r,o=some r∧f r=some y)∨(o=none∧g=some y):=by
 cases o with
 | none=>exact .inr ⟨rfl,h⟩
 | some r=>exact .inl ⟨r,rfl,h⟩
section
variable {X : Run} {cl : Nat} {T : TL} {H : HL} {Φ : Act → World → Prop}
theorem frzT {α ν : Type} {f : α → AV} {ev : ν → AV} {m1 : Mp Int ν} {m2 : Mp Int (List α)} {G : Nat → Nat} {R sz : Nat} (t b s1 s2 : Nat) {gb g1 g2 kk : Nat} (pre : List AV) (hl : T.lookup t = some (.ptr b gb 0 0)) (hb : H.lookup b = some (some (gb, .buf kk [.agg (pre ++ [.mp s1 g1, .mp s2 g2])]))) (h1 : H.lookup s1 = some (some (g1, .map (encM (Value.int .i64) ev m1)))) (h2 : H.lookup s2 = some (some (g2, .map (encM (Value.int .i64) (evR sz) (mG R m2 G)))))
    (hr:∀ i p,m2.l[i]? = some p→H.lookup (i+R)=some (some (G i,.buf sz (p.2.map f)))) (hpre:∀ x∈pre,Pu x) (hp:∀ a,Pu (f a)) (hq:∀ a,Pu (ev a))
    (h:∀ H',At X cl (mk ((t,.fptr (.agg (pre++[.fmp (encM (Value.int .i64) ev m1),.fmp (encM (Value.int .i64) (fun l:List α=>.lst false sz (l.map f)) m2)])) 0)::T) H') Φ):At X cl (mk T H) Φ:=by
 let rz:List (Nat × Nat × Ob):=m2.l.zipIdx.map fun p=>(p.2+R,G p.2,Ob.buf sz (p.1.2.map f))
 let Z:List (Nat × Nat × Ob):=[(b,gb,.buf kk [.agg (pre++[.mp s1 g1,.mp s2 g2])]),(s1,g1,.map (encM (Value.int .i64) ev m1)),(s2,g2,.map (encM (Value.int .i64) (evR sz) (mG R m2 G)))]++rz
 have hrz:∀ i p,m2.l[i]? = some p→(i+R,G i,Ob.buf sz (p.2.map f))∈Z:=by
  intro i p hip
  refine List.mem_append.2 (.inr (List.mem_map.2 ⟨(p,i),?_,rfl⟩))
  rw [List.mem_iff_getElem?]
  exact ⟨i,by rw [List.getElem?_zipIdx,hip];simp⟩
 obtain ⟨e',he'⟩:∃ e',e'=AV.agg (pre++[.fmp (encM (Value.int .i64) ev m1),.fmp (encM (Value.int .i64) (fun l:List α=>.lst false sz (l.map f)) m2)]):=⟨_,rfl⟩
 rw [← he'] at h
 refine at_freeze Z [(t,.ptr b gb 0 0,.fptr e' 0)] ?_ ?_ (h _)
 ·intro z hz
  rcases List.mem_append.1 hz with hz | hz
  ·simp only [List.mem_cons,List.not_mem_nil,or_false] at hz
   rcases hz with rfl | rfl | rfl
   ·exact hook_of hb
   ·exact hook_of h1
   ·exact hook_of h2
  ·obtain ⟨⟨p,i⟩,hpi,rfl⟩:=List.mem_map.1 hz
   obtain ⟨j,hj⟩:=List.mem_iff_getElem?.1 hpi
   rw [List.getElem?_zipIdx] at hj
   obtain ⟨q,hq1,hq2⟩:=Option.map_eq_some_iff.1 hj
   simp only [Nat.zero_add,Prod.mk.injEq] at hq2
   obtain ⟨rfl,rfl⟩:=hq2
   exact hook_of (hr _ _ hq1)
 ·intro p hp'
  simp only [List.mem_singleton] at hp'
  subst hp'
  subst he'
  refine ⟨look_of hl,.one _ _ (Rn.zptr b gb kk [.agg (pre++[.mp s1 g1,.mp s2 g2])] 0 0 _ _ (List.mem_append_left _ (List.Mem.head _)) rfl (.agg _ _ (by simp) fun i x y hx hy=>?_))⟩
  rcases Nat.lt_or_ge i pre.length with hi | hi
  ·rw [List.getElem?_append_left hi] at hx hy
   rw [hx] at hy;cases hy
   exact .pu _ (hpre x (List.mem_of_getElem? hx))
  ·rw [List.getElem?_append_right hi] at hx hy
   generalize i - pre.length=j at hx hy
   match j with
   | 0 =>
    simp at hx hy;subst hx;subst hy
    refine .zmp s1 g1 (encM (Value.int .i64) ev m1) _ (by simp [Z]) rfl (fun i p p' h h'=>by rw [h] at h';cases h';rfl) (fun i p p' h h'=>?_)
    rw [h] at h';cases h'
    obtain ⟨q,_,rfl⟩:=List.mem_map.1 (List.mem_of_getElem? h)
    exact .pu _ (hq _)
   | 1 =>
    simp at hx hy;subst hx;subst hy
    have key:∀ (i:Nat) p p',(encM (Value.int .i64) (evR sz) (mG R m2 G))[i]? = some p→(encM (Value.int .i64) (fun l:List α=>AV.lst false sz (l.map f)) m2)[i]? = some p'→p.1=p'.1∧Rn [] Z p.2 p'.2:=by
     intro i p p' h h'
     simp only [encM,List.getElem?_map] at h h'
     rw [mG_l] at h
     cases hq':m2.l[i]? with
     | none=>rw [hq'] at h;simp at h
     | some q =>
      rw [hq'] at h h'
      simp at h h'
      subst h;subst h'
      exact ⟨rfl,rn_own (hrz i q hq') (pu_map hp _) (by simp)⟩
    refine .zmp s2 g2 (encM (Value.int .i64) (evR sz) (mG R m2 G)) _ (by simp [Z]) (by simp [encM,mG]) (fun i p p' h h'=>(key i p p' h h').1) (fun i p p' h h'=>(key i p p' h h').2)
   | j+2=>simp at hx
end
end Go.Ar
namespace Go.Ar
open Go.RowKit
theorem op_one {P : Program} {ops : Array Oper} {n : Nn} {c i : Nat} {o : Oper} {T T' : TL} {H H' : HL} {ts rd wr : List Nat} (hg : o.guard = none) (ho : ops[i]? = some o)
    (h:RG P #[o] n (c+i) 0 [o] (mk T H) [] fun fs st=>fs=[⟨ts,rd,wr⟩]∧st=mk T' H') :
    ∃ r,OpDo P ops n i r∧r.gen=c+i∧∀ st:St,(∀ t∈ts,st.T t=lookT T t)→(∀ s∈rd,st.H s=lookH H s) →
     Pre st r∧st.app (dstOf ops i) r=⟨fun t=>if o.dst=some t then lookT T' t else st.T t,fun s=>if s∈wr then lookH H' s else st.H s⟩:=by
 obtain ⟨r,hdo,hgen,hpre,hK⟩:=h rfl
 obtain ⟨hf,hst⟩:=hK
 simp only [List.reverse_cons,List.reverse_nil,List.nil_append,List.cons.injEq,and_true] at hf
 have hd:dstOf ops i=o.dst:=by simp [dstOf,ho]
 have hd0:dstOf #[o] 0=o.dst:=by simp [dstOf]
 have hw:∀ a:Act,Region.wanted o (yielded ops a.tmps)=true:=by intro a;unfold Region.wanted;rw [hg]
 have hw0:∀ a:Act,Region.wanted o (yielded #[o] a.tmps)=true:=by intro a;unfold Region.wanted;rw [hg]
 refine ⟨r,?_,hgen,fun st ht hs=>⟨⟨fun p hp=>?_,fun p hp=>?_⟩,?_⟩⟩
 ·intro base w0 F G st a w Q K hG hp hs hK
  have:=hdo base w0 F G st a w Q K hG hp hs (by rw [hd0];rw [hd] at hK;exact hK)
  unfold wpOp at this ⊢
  simp only [ho,hw,if_true]
  simpa [hw0] using this
 ·have h1:p.1∈ts:=by
   have:p.1∈r.foot.ts:=List.mem_map.2 ⟨p,hp,rfl⟩
   rw [hf] at this;exact this
  rw [ht _ h1];exact hpre.temps p hp
 ·have h1:p.1∈rd:=by
   have:p.1∈r.foot.rd:=List.mem_map.2 ⟨p,hp,rfl⟩
   rw [hf] at this;exact this
  rw [obj_congr (st':=mk T H) (hs _ h1)];exact hpre.reads p hp
 ·rw [hd]
  have hT:∀ t,((mk T H).app o.dst r).T t=lookT T' t:=fun t=>congrFun (congrArg St.T hst) t
  have hH:∀ s,((mk T H).app o.dst r).H s=lookH H' s:=fun s=>congrFun (congrArg St.H hst) s
  have e1:(st.app o.dst r).T=fun t=>if o.dst=some t then lookT T' t else st.T t:=by
   funext t
   split
   ·rename_i e
    rw [← hT t]
    unfold St.app;rw [e];simp [upd]
   ·rename_i e
    exact app_T_ne e
  have e2:(st.app o.dst r).H=fun s=>if s∈wr then lookH H' s else st.H s:=by
   funext s
   have hwr:wr=r.effs.map (·.1):=by
    have:r.foot.wr=wr:=by rw [hf]
    exact this.symm
   split
   ·rename_i e
    rw [← hH s]
    show effsH _ _ _=effsH _ _ _
    unfold effsH
    split
    ·rfl
    ·rename_i e'
     exfalso
     rw [hwr] at e
     obtain ⟨p,hp,rfl⟩:=List.mem_map.1 e
     obtain ⟨p1,p2⟩:=p
     have:=List.lookup_eq_none_iff.1 e' _ hp
     simp at this
   ·rename_i e
    exact app_H_ne (by rw [← hwr];exact e)
  generalize st.app o.dst r=x at *
  cases x;simp only at e1 e2;subst e1;subst e2;rfl
theorem wp_reg_fam {P : Program} (hm : P.follows .mixedOrders = true) {id : Nat} {ops : Array Oper} {n : Nn} {c base : Nat} {w0 : World} {F : Fr} {st st' : St} {a : Act} {w : World} {Q : Exit → Act → World → Prop}
    (S:(Nat→Bool)→St) (hedge:∀ j o,ops[j]? = some o→∀ e∈o.after,Region.binds .any e=true→e.on < j)
    (h0:S (fun _=>false)=st) (h1:∀ L,(∀ k,k < ops.size→L k=true)→S L=st')
    (hstep:∀ L i,Closed ops L→i < ops.size→L i=false→Closed ops (with1 L i)→∃ r,OpDo P ops n i r∧r.gen=c+i∧Pre (S L) r∧(S L).app (dstOf ops i) r=S (with1 L i))
    (hQ:∀ a' w',Sim n base w0 F (fun g=>g < c+ops.size) st' a' w'→Q .normal a' w')
    (hs:Sim n base w0 F (fun g=>g < c) st a w):(Code.region id ops true).wp P Q a w:=by
 refine wp_region_any hm ?_
 have hs':Sim n base w0 F (fun g=>g < c) st a { w with drawn:=w.drawn+1 }:=by
  obtain ⟨E,hs⟩:=hs
  exact ⟨E,hs.drawn _⟩
 have key : ∀ (fuel : Nat) (l : Array Bool) (a : Act) (w : World), l.size = ops.size → Closed ops (listL l) → ((List.range ops.size).countP fun k => !listL l k) ≤ fuel →
     Sim n base w0 F (GL c (listL l)) (S (listL l)) a w→wpAny P .any ops Q fuel l a w:=by
  have hdone:∀ (l:Array Bool) (a:Act) (w:World),l.size=ops.size→(∀ k,k < ops.size→listL l k=true)→Sim n base w0 F (GL c (listL l)) (S (listL l)) a w→Q .normal a w:=by
   intro l a w hsz hall hs
   rw [h1 _ hall] at hs
   obtain ⟨E,hs⟩:=hs
   refine hQ a w ⟨E,hs.more fun g hg=>?_⟩
   rcases hg with h | ⟨i,hi,rfl⟩
   ·omega
   ·have:i < l.size:=by
     refine Nat.lt_of_not_le fun hle=>?_
     simp [listL,Array.getD,Nat.not_lt.2 hle] at hi
    omega
  have hnone:∀ (l:Array Bool),l.size=ops.size→Region.ready .any ops l=[]→∀ k,k < ops.size→listL l k=true:=by
   intro l hsz hr k
   induction k using Nat.strongRecOn with
   | _ k ih =>
    intro hk
    refine Classical.byContradiction fun hne=>?_
    have hne:listL l k=false:=by simpa using hne
    have:k∈Region.ready .any ops l:=by
     refine mem_ready.2 ⟨?_,ops[k],Array.getElem?_eq_getElem hk,fun e he hb=>?_⟩
     ·have hkl:k < l.size:=by omega
      simpa [listL,Array.getD,hkl] using hne
     ·exact ih e.on (hedge k _ (Array.getElem?_eq_getElem hk) e he hb) (by have:=hedge k _ (Array.getElem?_eq_getElem hk) e he hb;omega)
    rw [hr] at this
    cases this
  intro fuel
  induction fuel with
  | zero =>
   intro l a w hsz hcl hf hs
   have hall:∀ k,k < ops.size→listL l k=true:=by
    intro k hk
    have:(List.range ops.size).countP (fun k=>!listL l k)=0:=by omega
    have:=List.countP_eq_zero.1 this k (by simpa using hk)
    simpa using this
   refine ⟨?_,hdone l a w hsz hall hs⟩
   refine List.eq_nil_iff_forall_not_mem.2 fun k hk=>?_
   obtain ⟨h1,o,ho,_⟩:=mem_ready.1 hk
   have hk:k < ops.size:=(Array.getElem?_eq_some_iff.1 ho).1
   have:=hall k hk
   have hkl:k < l.size:=by omega
   simp [listL,Array.getD,hkl] at this h1
   rw [h1] at this
   cases this
  | succ fuel ih =>
   intro l a w hsz hcl hf hs
   refine ⟨fun hr=>hdone l a w hsz (hnone l hsz hr) hs,fun i hi=>?_⟩
   obtain ⟨hn,oi,hoi,hall⟩:=mem_ready.1 hi
   have hi:i < ops.size:=(Array.getElem?_eq_some_iff.1 hoi).1
   have hil:i < l.size:=by omega
   have hnl:listL l i=false:=by simpa [listL,Array.getD,hil] using hn
   have hset:listL (l.setIfInBounds i true)=with1 (listL l) i:=by
    funext k
    unfold with1 listL
    by_cases e:k=i
    ·subst e;simp [Array.getD,hil]
    ·rw [getD_set_ne false (Ne.symm e)]
     have:(k == i)=false:=by simpa using e
     simp [this]
   have hcl':Closed ops (with1 (listL l) i):=by
    intro j o ho hj e he hb
    simp only [with1,Bool.or_eq_true,beq_iff_eq] at hj ⊢
    rcases hj with hj | rfl
    ·exact .inl (hcl j o ho hj e he hb)
    ·have:o=oi:=Option.some.inj (ho.symm.trans hoi)
     subst this
     exact .inl (hall e he hb)
   obtain ⟨r,hdo,hg,hpre,happ⟩:=hstep _ i hcl hi hnl hcl'
   refine hdo base w0 F _ _ a w Q _ ?_ hpre hs fun a' w' hs2=>?_
   ·rw [hg]
    rintro (h | ⟨k,hk,e⟩)
    ·omega
    ·have:k=i:=by omega
     subst this
     rw [hnl] at hk
     cases hk
   ·rw [happ] at hs2
    refine ih _ a' w' (by simpa using hsz) (by rw [hset];exact hcl') ?_ ?_
    ·rw [hset]
     have hlt:(List.range ops.size).countP (fun k=>!with1 (listL l) i k) < (List.range ops.size).countP (fun k=>!listL l k):=by
      refine countP_lt (i:=i) (by simpa using hi) (by simpa using hnl) (by simp [with1]) fun k hk=>?_
      simp only [with1,Bool.not_eq_true',Bool.or_eq_false_iff] at hk
      simpa using hk.1
     omega
    ·rw [hset]
     obtain ⟨E,hs2⟩:=hs2
     refine ⟨E,hs2.more fun g h=>?_⟩
     rcases h with (h | ⟨k,hk,e⟩) | h
     ·exact .inl h
     ·exact .inr ⟨k,by simp [with1,hk],e⟩
     ·exact .inr ⟨i,by simp [with1],by rw [h,hg]⟩
 have hnot:listL (Array.replicate ops.size false)=fun _=>false:=by
  funext k
  unfold listL
  rcases Nat.lt_or_ge k ops.size with h | h
  ·simp [Array.getD,h]
  ·simp [Array.getD,Nat.not_lt.2 h]
 refine key ops.size _ a _ (by simp) ?_ ?_ ?_
 ·rw [hnot]
  intro j o _ hj
  cases hj
 ·exact Nat.le_trans List.countP_le_length (by simp)
 ·rw [hnot,h0]
  obtain ⟨E,hs'⟩:=hs'
  exact ⟨E,hs'.more fun g h=>.inl h⟩
end Go.Ar
namespace Go.Ar
open Go.RowKit
def slT (L:Nat→Bool) (d0 d1 d2 d3 d4 d5:Nat) (y0 y1 y2 y3 y4 y5:AV) (f:Nat→AV):Nat→AV:=fun t =>
 if L 5=true∧t=d5 then y5 else if L 4=true∧t=d4 then y4 else if L 3=true∧t=d3 then y3 else if L 2=true∧t=d2 then y2 else if L 1=true∧t=d1 then y1 else if L 0=true∧t=d0 then y0 else f t
theorem st_ext {a b:St} (h1:∀ t,a.T t=b.T t) (h2:∀ s,a.H s=b.H s):a=b:=by
 cases a;cases b
 have:=funext h1;have:=funext h2
 simp only at *;subst_vars;rfl
namespace Mp
variable {κ ν : Type} [DecidableEq κ]
theorem touch_get (m:Mp κ ν) (q:κ) (z:ν):(m.touch q z).get? q=some ((m.get? q).getD z):=by
 cases h:m.get? q with
 | none =>
  have hn:q ∉ m.l.map (·.1):=by
   intro hm
   obtain ⟨p,hp,rfl⟩:=List.mem_map.1 hm
   obtain ⟨p1,p2⟩:=p
   have:=List.lookup_eq_none_iff.1 h _ hp
   simp at this
  refine get_of (i:=m.l.length) ?_
  rw [touch_no hn];simp
 | some x =>
  have hi:=get_idx h
  have hm:q∈m.l.map (·.1):=List.mem_map.2 ⟨_,List.mem_of_getElem? hi,rfl⟩
  unfold touch;rw [if_pos hm];exact h
end Mp
section
variable {P : Program} {X : Run} {cl : Nat} {T : TL} {H : HL} {Q : Exit → Act → World → Prop}
theorem incX {κ : Type} [DecidableEq κ] {ek : κ → Value} {m : Mp κ Int} {q : κ} {t kt e : TypeId} {s g a : Nat} {yk : AV} {o1 : Oper} {d0 d1 d2 d3 d4 d5 : Nat} {ts1 rd1 : List Nat} {tb tb' ty0 ty2 ty3 ty4 ty5 ty6 : TypeId} {p0 p2 p3 p4 p5 p6 : String} {id : Nat} {Y : Code}
    (hx:P.follows .mixedOrders=true) (hk:KeyE P kt ek) (ht:mt P t=some (kt,e)) (hz:zo P e=some (.int .i64 0))
    (ha:T.lookup a=some (.mp s g)) (hh:H.lookup s=some (some (g,.map (encM ek (fun i=>AV.v (.int .i64 i)) m)))) (hq:ground yk=some (ek q))
    (ho1:o1.dst=some d1∧o1.guard=none∧o1.after = #[])
    (h1:∀ (ops:Array Oper) (c:Nat) (K:List Foot→St→Prop),K [⟨ts1,rd1,[]⟩] (mk ((d1,yk)::T) H)→RG P ops X.n c 0 [o1] (mk T H) [] K)
    (hts:ts1.all (fun u=>![d0,d1,d2,d3,d4,d5].contains u)=true) (hrd:rd1.all (fun u=>u != s)=true)
    (hnd:decide ([a,d0,d1,d2,d3,d4,d5].Nodup)=true) (hn:([d0,d1,d2,d3,d4,d5].all fun d=>Nat.blt d X.n.n)=true)
    (next : At X (cl + 7) (mk ((d5, .v (.int .i64 (m.idx q : Int))) :: (d4, .tup [.any, .v (.int .i64 (m.idx q : Int))]) :: (d3, .v (.int .i64 (IntKind.i64.wrap ((m.get? q).getD 0 + 1)))) :: (d2, .v (.int .i64 ((m.get? q).getD 0))) :: (d1, yk) :: (d0, .mp s g) :: T)
        ((s,some (g,.map (encM ek (fun i=>AV.v (.int .i64 i)) ((m.touch q 0).set q (IntKind.i64.wrap ((m.get? q).getD 0+1))))))::H)) (Y.wp P Q)) :
    At X cl (mk T H) ((Code.seq (.region id #[⟨some d0,.move (.tmp a),ty0,p0,#[],none⟩,o1,
     ⟨some d2,.lookup t (.tmp d0) (.tmp d1) false,ty2,p2,#[⟨0,.data⟩,⟨1,.data⟩],none⟩,
     ⟨some d3,.binOp .add tb (.tmp d2) (.const (.int .i64 1)) tb',ty3,p3,#[⟨2,.data⟩],none⟩,
     ⟨some d4,.mapEntry t (.tmp d0) (.tmp d1),ty4,p4,#[⟨0,.data⟩,⟨1,.data⟩,⟨0,.phase⟩,⟨1,.phase⟩,⟨2,.textOnly .mapOpAssignEntry⟩,⟨3,.textOnly .mapOpAssignEntry⟩],none⟩,
     ⟨some d5,.extract (.tmp d4) 1,ty5,p5,#[⟨4,.data⟩],none⟩,
     ⟨none,.entryStore t (.tmp d0) (.tmp d5) (.tmp d3),ty6,p6,#[⟨0,.data⟩,⟨5,.data⟩,⟨3,.data⟩,⟨4,.chain⟩,⟨0,.phase⟩,⟨1,.phase⟩,⟨2,.phase⟩,⟨3,.phase⟩,⟨4,.phase⟩,⟨5,.phase⟩],none⟩] true) Y).wp P Q):=by
 obtain ⟨hod,hog,hoa⟩:=ho1
 have hn:=List.all_eq_true.1 hn
 have hnd:=of_decide_eq_true hnd
 simp only [List.nodup_cons,List.mem_cons,List.not_mem_nil,or_false,not_or,not_false_eq_true,List.nodup_nil,and_true] at hnd
 obtain ⟨⟨a0,a1,a2,a3,a4,a5⟩,⟨n01,n02,n03,n04,n05⟩,⟨n12,n13,n14,n15⟩,⟨n23,n24,n25⟩,⟨n34,n35⟩,n45⟩:=hnd
 refine at_seq ?_
 intro A w hs
 generalize hops:(#[_,o1,_,_,_,_,_]:Array Oper)=ops
 have hsz:ops.size=7:=by rw [← hops];rfl
 have e0:ops[0]? = some ⟨some d0,.move (.tmp a),ty0,p0,#[],none⟩:=by rw [← hops];rfl
 have e1:ops[1]? = some o1:=by rw [← hops];rfl
 have e2:ops[2]? = some ⟨some d2,.lookup t (.tmp d0) (.tmp d1) false,ty2,p2,#[⟨0,.data⟩,⟨1,.data⟩],none⟩:=by rw [← hops];rfl
 have e3:ops[3]? = some ⟨some d3,.binOp .add tb (.tmp d2) (.const (.int .i64 1)) tb',ty3,p3,#[⟨2,.data⟩],none⟩:=by rw [← hops];rfl
 have e4:ops[4]? = some ⟨some d4,.mapEntry t (.tmp d0) (.tmp d1),ty4,p4,#[⟨0,.data⟩,⟨1,.data⟩,⟨0,.phase⟩,⟨1,.phase⟩,⟨2,.textOnly .mapOpAssignEntry⟩,⟨3,.textOnly .mapOpAssignEntry⟩],none⟩:=by rw [← hops];rfl
 have e5:ops[5]? = some ⟨some d5,.extract (.tmp d4) 1,ty5,p5,#[⟨4,.data⟩],none⟩:=by rw [← hops];rfl
 have e6:ops[6]? = some ⟨none,.entryStore t (.tmp d0) (.tmp d5) (.tmp d3),ty6,p6,#[⟨0,.data⟩,⟨5,.data⟩,⟨3,.data⟩,⟨4,.chain⟩,⟨0,.phase⟩,⟨1,.phase⟩,⟨2,.phase⟩,⟨3,.phase⟩,⟨4,.phase⟩,⟨5,.phase⟩],none⟩:=by rw [← hops];rfl
 have c2:∀ L,Closed ops L→L 2=true→L 0=true∧L 1=true:=fun L hc h=>⟨hc 2 _ e2 h ⟨0,.data⟩ (by simp) rfl,hc 2 _ e2 h ⟨1,.data⟩ (by simp) rfl⟩
 have c3:∀ L,Closed ops L→L 3=true→L 2=true:=fun L hc h=>hc 3 _ e3 h ⟨2,.data⟩ (by simp) rfl
 have c4:∀ L,Closed ops L→L 4=true→L 0=true∧L 1=true:=fun L hc h=>⟨hc 4 _ e4 h ⟨0,.data⟩ (by simp) rfl,hc 4 _ e4 h ⟨1,.data⟩ (by simp) rfl⟩
 have c5:∀ L,Closed ops L→L 5=true→L 4=true:=fun L hc h=>hc 5 _ e5 h ⟨4,.data⟩ (by simp) rfl
 have c6:∀ L,Closed ops L→L 6=true→L 3=true∧L 5=true:=fun L hc h=>⟨hc 6 _ e6 h ⟨3,.data⟩ (by simp) rfl,hc 6 _ e6 h ⟨5,.data⟩ (by simp) rfl⟩
 let M1:Option (Nat × Ob):=some (g,.map (encM ek (fun i=>AV.v (.int .i64 i)) (m.touch q 0)))
 let M2:Option (Nat × Ob):=some (g,.map (encM ek (fun i=>AV.v (.int .i64 i)) ((m.touch q 0).set q (IntKind.i64.wrap ((m.get? q).getD 0+1)))))
 let S:(Nat→Bool)→St:=fun L=>⟨slT L d0 d1 d2 d3 d4 d5 (.mp s g) yk (.v (.int .i64 ((m.get? q).getD 0))) (.v (.int .i64 (IntKind.i64.wrap ((m.get? q).getD 0+1)))) (.tup [.any,.v (.int .i64 (m.idx q:Int))]) (.v (.int .i64 (m.idx q:Int))) (lookT T),
  fun x=>if x=s then (if L 6 then M2 else if L 4 then M1 else lookH H x) else lookH H x⟩
 have k10:(d1 == d0)=false:=by simpa using Ne.symm n01
 have hHs:lookH H s=some (g,.map (encM ek (fun i=>AV.v (.int .i64 i)) m)):=by simp [lookH,hh]
 have lookT_a:lookT T a = .mp s g:=by simp [lookT,ha]
 have hgt:(m.touch q 0).get? q=some ((m.get? q).getD 0):=Mp.touch_get m q 0
 refine wp_reg_fam hx (c := cl) (base := X.base) (w0 := X.w0) (F := X.F) (n := X.n) S ?_ ?_ (st' := mk ((d5, .v (.int .i64 (m.idx q : Int))) :: (d4, .tup [.any, .v (.int .i64 (m.idx q : Int))]) :: (d3, .v (.int .i64 (IntKind.i64.wrap ((m.get? q).getD 0 + 1)))) :: (d2, .v (.int .i64 ((m.get? q).getD 0))) :: (d1, yk) :: (d0, .mp s g) :: T)
       ((s,some (g,.map (encM ek (fun i=>AV.v (.int .i64 i)) ((m.touch q 0).set q (IntKind.i64.wrap ((m.get? q).getD 0+1))))))::H)) ?_ ?_ ?_ hs
 ·intro j o ho e he hb
  have hj:j < 7:=by rw [← hsz];exact (Array.getElem?_eq_some_iff.1 ho).1
  match j,hj with
  | 0,_=>rw [e0] at ho;cases ho;simp at he
  | 1,_=>rw [e1] at ho;cases ho;rw [hoa] at he;simp at he
  | 2,_=>rw [e2] at ho;cases ho;simp at he;rcases he with rfl | rfl <;> simp
  | 3,_=>rw [e3] at ho;cases ho;simp at he;subst he;simp
  | 4,_=>rw [e4] at ho;cases ho;simp at he;rcases he with rfl | rfl | rfl | rfl | rfl | rfl <;> simp
  | 5,_=>rw [e5] at ho;cases ho;simp at he;subst he;simp
  | 6,_=>rw [e6] at ho;cases ho;simp at he;rcases he with rfl | rfl | rfl | rfl | rfl | rfl | rfl | rfl | rfl | rfl <;> simp
 ·exact st_ext (fun t=>by simp [S,slT,mk]) (fun x=>by simp [S,mk])
 ·intro L hL
  have l0:=hL 0 (by omega);have l1:=hL 1 (by omega);have l2:=hL 2 (by omega);have l3:=hL 3 (by omega);have l4:=hL 4 (by omega);have l5:=hL 5 (by omega);have l6:=hL 6 (by omega)
  refine st_ext (fun t=>?_) (fun x=>?_)
  ·simp only [S,slT,mk,l0,l1,l2,l3,l4,l5,true_and,lookT_cons,upd]
  ·simp only [S,mk,l6,if_true]
   by_cases h:x=s
   ·subst h;simp [lookH,M2]
   ·have:(x == s)=false:=by simpa using h
    simp [lookH,List.lookup,this,h]
 ·intro L i hL hi hn0 hL'
  rw [hsz] at hi
  have h6:i≠6→L 6=false:=by
   intro hne
   refine Bool.eq_false_iff.2 fun h=>?_
   have x3:=c6 L hL h
   have x2:=c3 L hL x3.1
   have x1:=c2 L hL x2
   have x4:=c5 L hL x3.2
   match i,hi with
   | 0,_=>rw [x1.1] at hn0;cases hn0
   | 1,_=>rw [x1.2] at hn0;cases hn0
   | 2,_=>rw [x2] at hn0;cases hn0
   | 3,_=>rw [x3.1] at hn0;cases hn0
   | 4,_=>rw [x4] at hn0;cases hn0
   | 5,_=>rw [x3.2] at hn0;cases hn0
   | 6,_=>exact hne rfl
  match i,hi with
  | 0,_ =>
   obtain ⟨r,r1,r2,r3⟩:=op_one (P:=P) (n:=X.n) (c:=cl) (T:=[(a,.mp s g)]) (T':=(d0,.mp s g)::[(a,.mp s g)]) (H:=[]) (H':=[]) (ts:=[a]) (rd:=[]) (wr:=[]) rfl e0
    (mv (y:=.mp s g) (ts:=[a]) (gts:=[]) rfl (by simp [evOp]) (hn d0 (by simp)) (dn ⟨rfl,rfl⟩))
   obtain ⟨q1,q2⟩:=r3 (S L) (by intro u hu;simp only [List.mem_singleton] at hu;subst hu;rw [show (S L).T u=lookT T u by simp [S,slT,a0,a1,a2,a3,a4,a5],lookT_a];simp [lookT]) (by simp)
   refine ⟨r,r1,r2,q1,q2.trans (st_ext (fun u=>?_) (fun x=>?_))⟩
   ·by_cases hu:u=d0
    ·subst hu;simp [S,slT,with1,lookT,n01,n02,n03,n04,n05]
    ·have:(u == d0)=false:=by simpa using hu
     simp [S,slT,with1,hu,Ne.symm hu]
   ·simp [S,with1]
  | 1,_ =>
   obtain ⟨r,r1,r2,r3⟩:=op_one (P:=P) (n:=X.n) (c:=cl) (T:=T) (T':=(d1,yk)::T) (H:=H) (H':=H) (ts:=ts1) (rd:=rd1) (wr:=[]) hog e1 (h1 _ _ _ ⟨rfl,rfl⟩)
   obtain ⟨q1, q2⟩ := r3 (S L) (by
       intro u hu
       have:=List.all_eq_true.1 hts u hu
       simp at this
       simp [S,slT,this]) (by
       intro u hu
       have:=List.all_eq_true.1 hrd u hu
       simp at this
       simp [S,this])
   refine ⟨r,r1,r2,q1,q2.trans (st_ext (fun u=>?_) (fun x=>?_))⟩
   ·rw [hod]
    by_cases hu:u=d1
    ·subst hu;simp [S,slT,with1,lookT,n12,n13,n14,n15]
    ·simp [S,slT,with1,hu,Ne.symm hu]
   ·simp [S,with1]
  | 2,_ =>
   have hn6:=h6 (by omega)
   obtain ⟨x0,x1⟩:=c2 _ hL' (by simp [with1])
   have x0:L 0=true:=by simpa [with1] using x0
   have x1:L 1=true:=by simpa [with1] using x1
   have hn3:L 3=false:=Bool.eq_false_iff.2 fun h=>by rw [c3 L hL h] at hn0;cases hn0
   have hm:∃ m':Mp κ Int,(S L).H s=some (g,.map (encM ek (fun i=>AV.v (.int .i64 i)) m'))∧(m'.get? q).getD 0=(m.get? q).getD 0:=by
    cases h4:L 4
    ·exact ⟨m,by simp [S,hn6,h4,hHs],rfl⟩
    ·exact ⟨m.touch q 0,by simp [S,hn6,h4,M1],by rw [hgt];rfl⟩
   obtain ⟨m',m1,m2⟩:=hm
   obtain ⟨r,r1,r2,r3⟩:=op_one (P:=P) (n:=X.n) (c:=cl) (T:=[(d0,.mp s g),(d1,yk)]) (T':=(d2,.v (.int .i64 ((m.get? q).getD 0)))::[(d0,.mp s g),(d1,yk)]) (H:=[(s,some (g,.map (encM ek (fun i=>AV.v (.int .i64 i)) m')))]) (H':=[(s,some (g,.map (encM ek (fun i=>AV.v (.int .i64 i)) m')))]) (ts:=[d0,d1]) (rd:=[s]) (wr:=[]) rfl e2
    (lkMZ (ek:=ek) (ev:=fun i=>AV.v (.int .i64 i)) (m:=m') (q:=q) (z0:=0) (s:=s) (g:=g) (ts1:=[d0]) (ts2:=[d1]) (gts:=[]) (yk:=yk) hk ht hz (fun _=>Option.some_ne_none _) (fun _ _ h=>h) rfl (by simp [evOp]) (by simp [evOp,List.lookup,k10]) hq (by simp) (hn d2 (by simp)) (dn ⟨rfl,by rw [m2]⟩))
   obtain ⟨q1, q2⟩ := r3 (S L) (by
       intro u hu
       simp only [List.mem_cons,List.not_mem_nil,or_false] at hu
       rcases hu with rfl | rfl
       ·simp [S,slT,x0,n01,n02,n03,n04,n05,lookT]
       ·have:(u == d0)=false:=by simpa using Ne.symm n01
        simp [S,slT,x1,n12,n13,n14,n15,lookT,List.lookup,this]) (by
       intro u hu
       simp only [List.mem_singleton] at hu
       subst hu
       rw [m1];simp [lookH])
   refine ⟨r,r1,r2,q1,q2.trans (st_ext (fun u=>?_) (fun x=>?_))⟩
   ·by_cases hu:u=d2
    ·subst hu;simp [S,slT,with1,lookT,n23,n24,n25]
    ·simp [S,slT,with1,hu,Ne.symm hu]
   ·simp [S,with1]
  | 3,_ =>
   have x2:L 2=true:=by simpa [with1] using c3 _ hL' (by simp [with1])
   obtain ⟨r,r1,r2,r3⟩:=op_one (P:=P) (n:=X.n) (c:=cl) (T:=[(d2,.v (.int .i64 ((m.get? q).getD 0)))]) (T':=(d3,.v (.int .i64 (IntKind.i64.wrap ((m.get? q).getD 0+1))))::[(d2,.v (.int .i64 ((m.get? q).getD 0)))]) (H:=[]) (H':=[]) (ts:=[d2]) (rd:=[]) (wr:=[]) rfl e3
    (bn (k1:=.i64) (k2:=.i64) (p:=(m.get? q).getD 0) (q:=1) (v:=.int .i64 (IntKind.i64.wrap ((m.get? q).getD 0+1))) (ts1:=[d2]) (ts2:=[]) (gts:=[]) rfl (by simp [evOp]) rfl rfl (hn d3 (by simp)) (dn ⟨rfl,rfl⟩))
   obtain ⟨q1, q2⟩ := r3 (S L) (by
       intro u hu
       simp only [List.mem_singleton] at hu
       subst hu
       simp [S,slT,x2,n23,n24,n25,lookT]) (by simp)
   refine ⟨r,r1,r2,q1,q2.trans (st_ext (fun u=>?_) (fun x=>?_))⟩
   ·by_cases hu:u=d3
    ·subst hu;simp [S,slT,with1,lookT,n34,n35]
    ·simp [S,slT,with1,hu,Ne.symm hu]
   ·simp [S,with1]
  | 4,_ =>
   have hn6:=h6 (by omega)
   obtain ⟨x0,x1⟩:=c4 _ hL' (by simp [with1])
   have x0:L 0=true:=by simpa [with1] using x0
   have x1:L 1=true:=by simpa [with1] using x1
   obtain ⟨r,r1,r2,r3⟩:=op_one (P:=P) (n:=X.n) (c:=cl) (T:=[(d0,.mp s g),(d1,yk)]) (T':=(d4,.tup [.any,.v (.int .i64 (m.idx q:Int))])::[(d0,.mp s g),(d1,yk)]) (H:=[(s,some (g,.map (encM ek (fun i=>AV.v (.int .i64 i)) m)))]) (H':=(s,M1)::[(s,some (g,.map (encM ek (fun i=>AV.v (.int .i64 i)) m)))]) (ts:=[d0,d1]) (rd:=[s]) (wr:=[s]) rfl e4
    (mapE (ek:=ek) (ev:=fun i=>AV.v (.int .i64 i)) (m:=m) (q:=q) (z0:=0) (s:=s) (g:=g) (ts1:=[d0]) (ts2:=[d1]) (gts:=[]) (yk:=yk) hk ht hz rfl rfl (by simp [evOp]) (by simp [evOp,List.lookup,k10]) hq (by simp) (hn d4 (by simp)) (dn ⟨rfl,rfl⟩))
   obtain ⟨q1, q2⟩ := r3 (S L) (by
       intro u hu
       simp only [List.mem_cons,List.not_mem_nil,or_false] at hu
       rcases hu with rfl | rfl
       ·simp [S,slT,x0,n01,n02,n03,n04,n05,lookT]
       ·have:(u == d0)=false:=by simpa using Ne.symm n01
        simp [S,slT,x1,n12,n13,n14,n15,lookT,List.lookup,this]) (by
       intro u hu
       simp only [List.mem_singleton] at hu
       subst hu
       rw [show (S L).H u=lookH H u by simp [S,hn6,hn0],hHs];simp [lookH])
   refine ⟨r,r1,r2,q1,q2.trans (st_ext (fun u=>?_) (fun x=>?_))⟩
   ·by_cases hu:u=d4
    ·subst hu;simp [S,slT,with1,lookT,n45]
    ·simp [S,slT,with1,hu,Ne.symm hu]
   ·by_cases hx:x=s
    ·subst hx;simp [S,with1,hn6,lookH]
    ·simp [S,with1,hx]
  | 5,_ =>
   have x4:L 4=true:=by simpa [with1] using c5 _ hL' (by simp [with1])
   obtain ⟨r,r1,r2,r3⟩:=op_one (P:=P) (n:=X.n) (c:=cl) (T:=[(d4,.tup [.any,.v (.int .i64 (m.idx q:Int))])]) (T':=(d5,.v (.int .i64 (m.idx q:Int)))::[(d4,.tup [.any,.v (.int .i64 (m.idx q:Int))])]) (H:=[]) (H':=[]) (ts:=[d4]) (rd:=[]) (wr:=[]) rfl e5
    (ext (xs:=[.any,.v (.int .i64 (m.idx q:Int))]) (y:=.v (.int .i64 (m.idx q:Int))) (ts:=[d4]) (gts:=[]) rfl (by simp [evOp]) rfl (hn d5 (by simp)) (dn ⟨rfl,rfl⟩))
   obtain ⟨q1, q2⟩ := r3 (S L) (by
       intro u hu
       simp only [List.mem_singleton] at hu
       subst hu
       simp [S,slT,x4,n45,lookT]) (by simp)
   refine ⟨r,r1,r2,q1,q2.trans (st_ext (fun u=>?_) (fun x=>?_))⟩
   ·by_cases hu:u=d5
    ·subst hu;simp [S,slT,with1,lookT]
    ·simp [S,slT,with1,hu,Ne.symm hu]
   ·simp [S,with1]
  | 6,_ =>
   obtain ⟨x3,x5⟩:=c6 _ hL' (by simp [with1])
   have x3:L 3=true:=by simpa [with1] using x3
   have x5:L 5=true:=by simpa [with1] using x5
   have x0:L 0=true:=(c2 L hL (c3 L hL x3)).1
   have x4:L 4=true:=c5 L hL x5
   have k50:(d5 == d0)=false:=by simpa using Ne.symm n05
   have k30:(d3 == d0)=false:=by simpa using Ne.symm n03
   have k35:(d3 == d5)=false:=by simpa using n35
   obtain ⟨r,r1,r2,r3⟩:=op_one (P:=P) (n:=X.n) (c:=cl) (T:=[(d0,.mp s g),(d5,.v (.int .i64 (m.idx q:Int))),(d3,.v (.int .i64 (IntKind.i64.wrap ((m.get? q).getD 0+1))))]) (T':=[(d0,.mp s g),(d5,.v (.int .i64 (m.idx q:Int))),(d3,.v (.int .i64 (IntKind.i64.wrap ((m.get? q).getD 0+1))))]) (H:=[(s,M1)]) (H':=(s,M2)::[(s,M1)]) (ts:=[d0,d5,d3]) (rd:=[s]) (wr:=[s]) rfl e6
    (enS (ek:=ek) (ev:=fun i=>AV.v (.int .i64 i)) (m:=m) (q:=q) (z:=0) (v:=IntKind.i64.wrap ((m.get? q).getD 0+1)) (s:=s) (g:=g) (ts1:=[d0]) (ts2:=[d5]) (ts3:=[d3]) (gts:=[]) (Option.some_ne_none _) rfl (by simp [evOp]) (by simp [evOp,List.lookup,k50]) (by simp [evOp,List.lookup,k30,k35]) (by simp [M1]) (dn ⟨rfl,rfl⟩))
   obtain ⟨q1, q2⟩ := r3 (S L) (by
       intro u hu
       simp only [List.mem_cons,List.not_mem_nil,or_false] at hu
       rcases hu with rfl | rfl | rfl
       ·simp [S,slT,x0,n01,n02,n03,n04,n05,lookT]
       ·simp [S,slT,x5,lookT,List.lookup,k50]
       ·simp [S,slT,x3,n34,n35,lookT,List.lookup,k30,k35]) (by
       intro u hu
       simp only [List.mem_singleton] at hu
       subst hu
       simp [S,hn0,x4,lookH])
   refine ⟨r,r1,r2,q1,q2.trans (st_ext (fun u=>?_) (fun x=>?_))⟩
   ·simp [S,slT,with1]
   ·by_cases hx:x=s
    ·subst hx;simp [S,with1,lookH]
    ·simp [S,with1,hx]
 ·intro a' w' hs'
  rw [hsz] at hs'
  exact next a' w' hs'
end
theorem heqA {X:Run}{cl:Nat}{T:TL}{H:HL}{Q:Act→World→Prop} (s:Nat) {g:Nat}{o o':Ob} (h:H.lookup s=some (some (g,o))) (ho:o=o') (next:At X cl (mk T ((s,some (g,o'))::H)) Q):At X cl (mk T H) Q:=by rw [← mk_H_eq h ho];exact next
end Go.Ar
namespace Go.Ar
theorem LooksT.k {T T':TL}{t:Nat}{x y:AV} (h1:T.lookup t=some x) (h2:x=y) (h3:LooksT T T'):LooksT T ((t,y)::T'):=.cons _ _ _ _ h1 h2 h3
theorem HooksT.k {H H':HL}{s g:Nat}{o o':Ob} (h1:H.lookup s=some (some (g,o))) (h2:o=o') (h3:HooksT H H'):HooksT H ((s,some (g,o'))::H'):=.cons _ _ _ _ _ h1 h2 h3
theorem sj {α:Type _}{a b:α} (h:some a=some b):a=b:=Option.some.inj h
theorem r {α:Sort _}{a:α}:a=a:=Eq.refl a
end Go.Ar
namespace Go.Ar
open Go.RowKit
section
variable {P : Program} {fn : Func} {X : Run} {cl : Nat} {T : TL} {H : HL}
theorem outOs {α:Type}{g1:α→AV}{l:List α}{sz:Nat}{rs:List Nat}{xs ys:List AV}{e:Exit} (hr:∀ tmps w,(results fn tmps).run P w = .ok (resV tmps rs) w) (h1:rs.length≠1) (he:e = .ret∨e = .normal) (hl:Looks T rs xs) (hxy:xs=ys) (hh:H.lookup 0=some (some (0,.buf sz (l.map g1)))) (hp:∀ a,Pu (g1 a)) (hpy:PuL ys):At X cl (mk T H) (Out P fn X [0] [.buf sz (l.map g1)] (.tup ys) e):=by
 subst hxy
 refine at_outs hr h1 hl (hand1 hh hp) (by simp) ((PuT.tup hpy).rn) e he fun x hx C v=>?_
 have:Pu x:=by
  clear hl h1 hr
  induction hpy with
  | nil=>simp at hx
  | cons h _ ih =>
   rcases List.mem_cons.1 hx with rfl | hx
   ·exact h
   ·exact ih hx
 cases this <;> rfl
end
theorem rnPtr {σ:Sel}{Z:List (Nat × Nat × Ob)}{s g s' g' i off:Nat} (h:((s,g),(s',g'))∈σ):Rn σ Z (.ptr s g i off) (.ptr s' g' i off):=.ptr _ _ _ _ _ _ h
theorem sc_t {xs:List Value}:∀ C C' v,VT C (.tup (xs.map .v)) v→VT C' (.tup (xs.map .v)) v:=by
 intro C C' v h
 obtain ⟨vs,e,h1,h2⟩:=h
 refine ⟨vs,e,h1,fun i x hx w hw=>?_⟩
 obtain ⟨a,ha,rfl⟩:=List.mem_map.1 (List.mem_of_getElem? hx)
 exact sc_v C C' w (h2 i _ hx w hw)
end Go.Ar
namespace Go.Ar
open Go.RowKit
section
variable {ops : Array Oper} {nn : Nat} {T : TL}
def stpO (nn:Nat) (T:TL) (d:Nat) (gts:List Nat) (op:Op):Option (TL × Foot) :=
 if Nat.blt d nn then
  match op with
  | .move x=>match evOp T x with | some (y,ts)=>some ((d,y)::T,⟨gts++ts,[],[]⟩) | none=>none
  | .assign x=>match evOp T x with | some (y,ts)=>some ((d,y)::T,⟨gts++ts,[],[]⟩) | none=>none
  | .binOp b _ x1 x2 _=>match evOp T x1 with
   | some (.v (.int k1 p),ts1)=>match evOp T x2 with
    | some (.v (.int k2 q),ts2)=>match binVal b k1 k2 p q with
     | some v=>some ((d,.v v)::T,⟨gts++(ts1++ts2),[],[]⟩)
     | none=>none
    | _=>none
   | _=>none
  | .unOp .not _ x=>match evOp T x with | some (.v (.bool b),ts)=>some ((d,.v (.bool (!b)))::T,⟨gts++ts,[],[]⟩) | _=>none
  | .extract x i=>match evOp T x with
   | some (.tup xs,ts)=>match xs[i]? with | some y=>some ((d,y)::T,⟨gts++ts,[],[]⟩) | none=>none
   | _=>none
  | .pick x x1 x2=>match evOp T x with
   | some (.v (.bool true),ts)=>match evOp T x1 with
    | some (y1,ts1)=>match evOp T x2 with | some (_,ts2)=>some ((d,y1)::T,⟨gts++(ts++ts1++ts2),[],[]⟩) | none=>none
    | none=>none
   | some (.v (.bool false),ts)=>match evOp T x1 with
    | some (_,ts1)=>match evOp T x2 with | some (y2,ts2)=>some ((d,y2)::T,⟨gts++(ts++ts1++ts2),[],[]⟩) | none=>none
    | none=>none
   | _=>none
  | .nilCheck x=>match evOp T x with
   | some (.ptr s g i off,ts)=>some ((d,.ptr s g i off)::T,⟨gts++ts,[],[]⟩)
   | some (.fptr e off,ts)=>some ((d,.fptr e off)::T,⟨gts++ts,[],[]⟩)
   | _=>none
  | _=>none
 else none
def stp (ops:Array Oper) (nn:Nat) (T:TL) (o:Oper):Option (TL × Foot) :=
 match gdOp ops T o.guard with
 | some gts=>match o.dst with
  | some d=>stpO nn T d gts o.op
  | none=>none
 | none=>match gdOff ops T o.guard with
  | some g=>match o.dst with
   | some d=>if Nat.blt d nn then some ((d,.tup [])::T,⟨[g],[],[]⟩) else none
   | none=>some (T,⟨[g],[],[]⟩)
  | none=>none
def rn (ops:Array Oper) (nn:Nat):Nat→List Oper→TL→List Foot→Option (List Oper × TL × List Foot)
 | 0,rest,T,fs=>some (rest,T,fs)
 | _+1,[],_,_=>none
 | m+1,o::rest,T,fs=>match stp ops nn T o with
  | some (T',f)=>rn ops nn m rest T' (f::fs)
  | none=>none
end
section
variable {P : Program} {ops : Array Oper} {n : Nn} {c k : Nat} {rest rest' : List Oper} {T T' : TL} {H : HL} {fs fs' : List Foot} {K : List Foot → St → Prop}
theorem stpO_ok {d ty : Nat} {pos : String} {aft : Array Edge} {gd : Option (Nat × Bool)} {gts : List Nat} {op : Op} {f : Foot} (hg : gdOp ops T gd = some gts) (h : stpO n.n T d gts op = some (T', f))
    (next:RG P ops n c (k+1) rest (mk T' H) (f::fs) K):RG P ops n c k (⟨some d,op,ty,pos,aft,gd⟩::rest) (mk T H) fs K:=by
 unfold stpO at h
 split at h
 ·rename_i hd
  split at h
  ·split at h
   ·rename_i hx;cases h;exact mv hg hx hd next
   ·cases h
  ·split at h
   ·rename_i hx;cases h;exact asg hg hx hd next
   ·cases h
  ·split at h
   ·rename_i h1
    split at h
    ·rename_i h2
     split at h
     ·rename_i hv;cases h;exact bn hg h1 h2 hv hd next
     ·cases h
    ·cases h
   ·cases h
  ·split at h
   ·rename_i hx;cases h;exact nt hg hx hd next
   ·cases h
  ·split at h
   ·rename_i hx
    split at h
    ·rename_i hy;cases h;exact ext hg hx hy hd next
    ·cases h
   ·cases h
  ·split at h
   ·rename_i hx
    split at h
    ·rename_i h1
     split at h
     ·rename_i h2;cases h;exact pkt hg hx h1 h2 hd next
     ·cases h
    ·cases h
   ·rename_i hx
    split at h
    ·rename_i h1
     split at h
     ·rename_i h2;cases h;exact pkf hg hx h1 h2 hd next
     ·cases h
    ·cases h
   ·cases h
  ·split at h
   ·rename_i hx;cases h;exact nck hg hx hd next
   ·rename_i hx;cases h;exact fnck hg hx hd next
   ·cases h
  ·cases h
 ·cases h
theorem stp_ok {o:Oper}{f:Foot} (h:stp ops n.n T o=some (T',f)) (next:RG P ops n c (k+1) rest (mk T' H) (f::fs) K):RG P ops n c k (o::rest) (mk T H) fs K:=by
 obtain ⟨dst,op,ty,pos,aft,gd⟩:=o
 unfold stp at h
 split at h
 ·rename_i gts hg
  split at h
  ·rename_i d hd
   simp only at hd hg h;subst hd
   exact stpO_ok hg h next
  ·cases h
 ·split at h
  ·rename_i g hg
   split at h
   ·rename_i d hd
    simp only at hd hg h;subst hd
    split at h
    ·rename_i hb;cases h;exact sk hg hb next
    ·cases h
   ·rename_i hd
    simp only at hd hg h;subst hd
    cases h;exact sk0 hg next
  ·cases h
theorem go_:∀ (m:Nat) {k:Nat}{rest:List Oper}{T:TL}{fs:List Foot},rn ops n.n m rest T fs=some (rest',T',fs')→RG P ops n c (k+m) rest' (mk T' H) fs' K→RG P ops n c k rest (mk T H) fs K:=by
 intro m
 induction m with
 | zero=>intro k rest T fs h next;cases h;exact next
 | succ m ih =>
  intro k rest T fs h next
  cases rest with
  | nil=>cases h
  | cons o rest =>
   unfold rn at h
   split at h
   ·rename_i T1 f h1
    exact stp_ok h1 (ih h (by rw [show k+1+m=k+(m+1) by omega];exact next))
   ·cases h
theorem go (m:Nat) (h:rn ops n.n m rest T fs=some (rest',T',fs')) (next:RG P ops n c (k+m) rest' (mk T' H) fs' K):RG P ops n c k rest (mk T H) fs K:=go_ m h next
end
section
variable {P : Program} {X : Run} {cl : Nat} {T T' : TL} {H : HL} {Q : Exit → Act → World → Prop} {fs' : List Foot}
theorem rg {id:Nat}{ops:Array Oper}{y:Code} (h:rn ops X.n.n ops.size ops.toList T []=some ([],T',fs')) (next:At X (cl+ops.size) (mk T' H) (y.wp P Q)):At X cl (mk T H) ((Code.seq (.region id ops false) y).wp P Q) :=
 reg ops.size rfl (go _ h (dn (by exact next)))
theorem rg1 {id:Nat}{ops:Array Oper} (h:rn ops X.n.n ops.size ops.toList T []=some ([],T',fs')) (next:At X (cl+ops.size) (mk T' H) (Q .normal)):At X cl (mk T H) ((Code.region id ops false).wp P Q) :=
 reg1 ops.size rfl (go _ h (dn (by exact next)))
end
section
variable {α β γ : Type} {G : Prop}
theorem ixH {l:List α}{q:Int}{k:α→Option β}{y:β} (h:ixP l q k=some y) (g:∀ (i:Nat) (x:α),q=(i:Int)→l[i]? = some x→k x=some y→G):G:=by
 obtain ⟨i,x,h1,h2,h3⟩:=ixI h;exact g i x h1 h2 h3
theorem bdH {n:Nat}{q:Int}{k:Nat→Option β}{y:β} (h:bdP n q k=some y) (g:∀ i:Nat,q=(i:Int)→i < n→k i=some y→G):G:=by
 obtain ⟨i,h1,h2,h3⟩:=bdI h;exact g i h1 h2 h3
theorem gtH {l:List α}{i:Nat}{k:α→Option β}{y:β} (h:gtP l i k=some y) (g:∀ x,l[i]? = some x→k x=some y→G):G:=by
 obtain ⟨x,h1,h2⟩:=gtI h;exact g x h1 h2
theorem bndH {x:Option γ}{k:γ→Option β}{y:β} (h:x.bind k=some y) (g:∀ r,x=some r→k r=some y→G):G:=by
 obtain ⟨r,h1,h2⟩:=bndI h;exact g r h1 h2
theorem apH {by_ n m:Nat}{k:Option β}{y:β} (h:apP by_ n m k=some y) (g:(n+m) * by_≤140737488355328→n+m≤140737488355328→k=some y→G):G:=by
 obtain ⟨h1,h2,h3⟩:=apI h;exact g h1 h2 h3
theorem guH {c:Prop} [Decidable c] {k:Option β}{y:β} (h:guP c k=some y) (g:c→k=some y→G):G:=by
 obtain ⟨h1,h2⟩:=guI h;exact g h1 h2
theorem bkH {x:Option γ}{F:γ→Option β}{y:β} (h:x.bind F=some y) (g:∀ r,x=some r→∀ k:γ→Option β,k=F→k r=some y→G):G:=by
 obtain ⟨r,h1,k,h2,h3⟩:=bndK h;exact g r h1 k h2 h3
end
section
variable {P : Program} {X : Run} {cl : Nat} {T : TL} {H : HL} {Q : Exit → Act → World → Prop} {x y : Code} {t : Nat} {β : Type} {b : Bool} {u v : Option β} {z : β}
theorem cdH (hl:T.lookup t=some (.v (.bool b))) (hy:(bif b then u else v)=some z) (ht:u=some z→At X cl (mk T H) (x.wp P Q)) (hf:v=some z→At X cl (mk T H) (y.wp P Q)):At X cl (mk T H) ((Code.cond (.tmp t) x y).wp P Q) :=
 cd hl (fun h=>ht (ifT hy h)) (fun h=>hf (ifF hy h))
end
section
variable {P : Program} {ops : Array Oper} {n : Nn} {c k : Nat} {rest : List Oper} {T : TL} {H : HL} {fs : List Foot} {K : List Foot → St → Prop} {β : Type} {b : Bool} {u v : Option β} {z : β}
theorem casH (t:Nat) (h:T.lookup t=some (.v (.bool b))) (hy:(bif b then u else v)=some z) (ht:u=some z→RG P ops n c k rest (mk ((t,.v (.bool true))::T) H) fs K) (hf:v=some z→RG P ops n c k rest (mk ((t,.v (.bool false))::T) H) fs K):RG P ops n c k rest (mk T H) fs K :=
 cas t h (fun h=>ht (ifT hy h)) (fun h=>hf (ifF hy h))
end
class PU (x:AV):Prop where
 p:Pu x
class PUs (xs:List AV):Prop where
 p:PuL xs
instance puI1 {x:Value}:PU (.v x):=⟨.v _⟩
instance puI2:PUs []:=⟨.nil⟩
instance puI3 {x:AV}{xs:List AV} [h:PU x] [hs:PUs xs]:PUs (x::xs):=⟨.cons h.p hs.p⟩
instance puI4 {α:Type}{f:α→AV}{l:List α}{sz:Nat} [h:∀ a,PU (f a)]:PU (.lst false sz (l.map f)):=⟨.lst _ _ (pu_map (fun a=>(h a).p) l)⟩
theorem PuL.al {xs:List AV} (h:PuL xs):∀ x∈xs,Pu x:=by
 induction h with
 | nil=>simp
 | cons h1 h2 ih =>
  intro x hx
  rcases List.mem_cons.1 hx with rfl | hx
  ·exact h1
  ·exact ih x hx
instance puI5 {xs:List AV} [h:PUs xs]:PU (.agg xs):=⟨.agg _ h.p.al⟩
instance puI7 {x:AV}{off:Nat} [h:PU x]:PU (.fptr x off):=⟨.fptr _ _ h.p⟩
class PUt (x:AV):Prop where
 p:PuT x
instance puI9 {x:AV} [h:PU x]:PUt x:=⟨.one h.p⟩
instance puI10 {xs:List AV} [h:PUs xs]:PUt (.tup xs):=⟨.tup h.p⟩
section
variable {P : Program} {ops : Array Oper} {n : Nn} {c k : Nat} {rest : List Oper} {T : TL} {H : HL} {fs : List Foot} {K : List Foot → St → Prop}
variable {d ty : Nat} {pos : String} {aft : Array Edge} {gd : Option (Nat × Bool)} {gts ts : List Nat} {y : AV}
theorem clc {f : FuncId} {args : List Operand} {at_ : Array TypeId} {asx : List AV} (hdoes : Does P n.gl f [] asx [] [] y) [hpa : PUs asx] [hpy : PUt y] (hc : callable P f = true) (hg : gdOp ops T gd = some gts) (ha : evOps T args = some (asx, ts)) (hd : Nat.blt d n.n = true)
    (next:RG P ops n c (k+1) rest (mk ((d,y)::T) H) (⟨gts++ts,[],[]⟩::fs) K):RG P ops n c k (⟨some d,.call ⟨.value (.func f),args.toArray,at_⟩,ty,pos,aft,gd⟩::rest) (mk T H) fs K:=clp hdoes hc hg ha hpa.p hpy.p hd next
end
section
variable {P : Program} {fn : Func} {X : Run} {cl : Nat} {T : TL} {H : HL}
theorem eR {r:Nat}{y:AV} [hp:PU y] (hr:fn.results = #[.tmp r]) (hl:T.lookup r=some y):At X cl (mk T H) (Out P fn X [] [] y .ret):=out1 hr (.inl rfl) (look_of hl) rfl hp.p
theorem ResV.t {t:Nat}{x:AV}{rs:List ResultVar}{xs:List AV} (h:T.lookup t=some x) (h2:ResV P T H rs xs):ResV P T H (.tmp t::rs) (x::xs):=.tmp _ _ _ _ h h2
theorem ResV.c {a t s g i sz:Nat}{ys:List AV}{e:AV}{ag:Bool}{m:Nat}{y:AV}{rs:List ResultVar}{xs:List AV} (h1:T.lookup a=some (.ptr s g i 0)) (h2:H.lookup s=some (some (g,.buf sz ys))) (h3:ys[i]? = some e) (h4:tk P t=some (ag,m)) (h5:partOf e ag m 0=some y) (h6:ResV P T H rs xs):ResV P T H (.cell a t::rs) (y::xs):=.cell _ _ _ _ _ _ _ _ _ _ _ _ _ h1 h2 h3 h4 h5 h6
theorem mR {rs:List ResultVar}{ys:List AV} [hp:PUs ys] (hr:fn.results=rs.toArray) (h1:(rs.length == 1)=false) (hl:ResV P T H rs ys):At X cl (mk T H) (Out P fn X [] [] (.tup ys) .ret):=endZ [] hr (by simpa using h1) (.inl rfl) hl (by simp) hp.p.rn
theorem cR {r:ResultVar}{y:AV} [hp:PU y] (hr:fn.results = #[r]) (hl:ResV P T H [r] [y]):At X cl (mk T H) (Out P fn X [] [] y .ret):=endZ1 [] hr (.inl rfl) hl (by simp) (.pu _ hp.p)
theorem sj2 {α β:Type}{a b:α}{k:α→Option β}{c:Option β} (h:some a=some b) (hc:k b=c):k a=c:=by cases h;exact hc
end
end Go.Ar
namespace Go.Ar
open Go.RowKit
def selT (T:TL):List Nat→Option TL
 | []=>some []
 | t::ts=>match T.lookup t with
  | some x=>match selT T ts with
   | some r=>some ((t,x)::r)
   | none=>none
  | none=>none
def selH (H:HL):List Nat→Option HL
 | []=>some []
 | s::ss=>match H.lookup s with
  | some (some (g,o))=>match selH H ss with
   | some r=>some ((s,some (g,o))::r)
   | none=>none
  | _=>none
theorem lkS {T:TL}:∀ {ts:List Nat}{T0:TL},selT T ts=some T0→LooksT T T0:=by
 intro ts
 induction ts with
 | nil=>intro T0 h;cases h;exact .nil
 | cons t ts ih =>
  intro T0 h
  unfold selT at h
  split at h
  ·rename_i h1
   split at h
   ·rename_i h2;cases h;exact .cons _ _ _ _ h1 rfl (ih h2)
   ·cases h
  ·cases h
theorem hkS {H:HL}:∀ {ss:List Nat}{H0:HL},selH H ss=some H0→HooksT H H0:=by
 intro ss
 induction ss with
 | nil=>intro H0 h;cases h;exact .nil
 | cons s ss ih =>
  intro H0 h
  unfold selH at h
  split at h
  ·rename_i h1
   split at h
   ·rename_i h2;cases h;exact .cons _ _ _ _ _ h1 rfl (ih h2)
   ·cases h
  ·cases h
theorem lk {T T':TL} (h:selT T (T'.map (·.1))=some T'):LooksT T T':=lkS h
theorem hk {H H':HL} (h:selH H (H'.map (·.1))=some H'):HooksT H H':=hkS h
theorem LooksT.j {T T':TL}{t:Nat}{y:AV} (h1:T.lookup t=some y) (h3:LooksT T T'):LooksT T ((t,y)::T'):=.cons _ _ _ _ h1 rfl h3
theorem HooksT.j {H H':HL}{s g:Nat}{o:Ob} (h1:H.lookup s=some (some (g,o))) (h3:HooksT H H'):HooksT H ((s,some (g,o))::H'):=.cons _ _ _ _ _ h1 rfl h3
theorem LooksT.ap {T A B:TL} (h:LooksT T A) (h2:LooksT T B):LooksT T (A++B):=by
 induction h with
 | nil=>exact h2
 | cons t x y T' h e _ ih=>exact .cons _ _ _ _ h e ih
theorem HooksT.ap {H A B:HL} (h:HooksT H A) (h2:HooksT H B):HooksT H (A++B):=by
 induction h with
 | nil=>exact h2
 | cons s g o o' H' h e _ ih=>exact .cons _ _ _ _ _ h e ih
def nfL {α:Type}:List α→List α→Option (List α)
 | [],b=>some b
 | a::as',b=>match nfL as' b with
  | some r=>some (a::r)
  | none=>none
theorem nfL_eq {α:Type}:∀ {a b r:List α},nfL a b=some r→r=a++b:=by
 intro a
 induction a with
 | nil=>intro b r h;cases h;rfl
 | cons x a ih =>
  intro b r h
  unfold nfL at h
  split at h
  ·rename_i h1;cases h;rw [ih h1];rfl
  ·cases h
section
variable {X : Run} {cl : Nat} {T T0 T1 A : TL} {H H0 H1 B : HL} {Φ : Act → World → Prop} {β ι : Type} {P : Program} {Q : Exit → Act → World → Prop}
theorem nf (h:nfL A T0=some T1) (h':nfL B H0=some H1) (next:At X cl (mk T1 H1) Φ):At X cl (mk (A++T0) (B++H0)) Φ:=by
 rw [← nfL_eq h,← nfL_eq h'];exact next
theorem loopD {c : Code} (ts ss : List Nat) (hT : selT T ts = some T0) (hH : selH H ss = some H0) (S : Nat × β → TL × HL × Prop) (i : Nat × β) (eT : LooksT T (S i).1) (eH : HooksT H (S i).2.1) (hi : (S i).2.2)
    (round:∀ i cl,(S i).2.2→At X cl (mk ((S i).1++T0) ((S i).2.1++H0)) (c.wp P (Exit.then (fun a w=>∃ j cl',((S j).2.2∧j.1 < i.1)∧Sim X.n X.base X.w0 X.F (· < cl') (mk ((S j).1++T0) ((S j).2.1++H0)) a w) Q))) :
    At X cl (mk T H) ((Code.loop c).wp P Q) :=
 wk (eT.ap (lkS hT)) (eH.ap (hkS hH)) (loopI (fun i=>mk ((S i).1++T0) ((S i).2.1++H0)) (fun i=>(S i).2.2) (fun i=>i.1) round i hi cl)
theorem againD {S : Nat × β → TL × HL × Prop} {i : Nat × β} (j : Nat × β) (eT : LooksT T (S j).1) (eH : HooksT H (S j).2.1) (kT : selT T (T0.map (·.1)) = some T0) (kH : selH H (H0.map (·.1)) = some H0) (hI : (S j).2.2) (hm : i.1 = j.1 + 1) :
    At X cl (mk T H) (fun a w=>∃ j cl',((S j).2.2∧j.1 < i.1)∧Sim X.n X.base X.w0 X.F (· < cl') (mk ((S j).1++T0) ((S j).2.1++H0)) a w) :=
 againI (S:=fun i=>mk ((S i).1++T0) ((S i).2.1++H0)) (I:=fun i=>(S i).2.2) (m:=fun i=>i.1) j rfl hI (by show j.1 < i.1;omega) (eT.ap (lkS kT)) (eH.ap (hkS kH))
theorem meetD (ts ss : List Nat) (hT : selT T ts = some T0) (hH : selH H ss = some H0) (S : ι → TL × HL × Prop) {x y : Code} (hx : At X cl (mk T H) (x.wp P (Exit.then (fun a w => ∃ j cl', (S j).2.2 ∧ Sim X.n X.base X.w0 X.F (· < cl') (mk ((S j).1 ++ T0) ((S j).2.1 ++ H0)) a w) Q)))
    (hy:∀ i cl,(S i).2.2→At X cl (mk ((S i).1++T0) ((S i).2.1++H0)) (y.wp P Q)):At X cl (mk T H) ((Code.seq x y).wp P Q) :=
 meetI (fun i=>mk ((S i).1++T0) ((S i).2.1++H0)) (fun i=>(S i).2.2) hx hy
theorem meetE (ts ss : List Nat) (hT : selT T ts = some T0) (hH : selH H ss = some H0) (S : ι → TL × HL × Prop) {x : Code} (hx : At X cl (mk T H) (x.wp P (Exit.then (fun a w => ∃ j cl', (S j).2.2 ∧ Sim X.n X.base X.w0 X.F (· < cl') (mk ((S j).1 ++ T0) ((S j).2.1 ++ H0)) a w) Q)))
    (hy:∀ i cl,(S i).2.2→At X cl (mk ((S i).1++T0) ((S i).2.1++H0)) (Q .normal)):At X cl (mk T H) (x.wp P Q) :=
 meetT (fun i=>mk ((S i).1++T0) ((S i).2.1++H0)) (fun i=>(S i).2.2) hx hy
theorem metD {S : ι → TL × HL × Prop} (j : ι) (eT : LooksT T (S j).1) (eH : HooksT H (S j).2.1) (kT : selT T (T0.map (·.1)) = some T0) (kH : selH H (H0.map (·.1)) = some H0) (hI : (S j).2.2) :
    At X cl (mk T H) (fun a w=>∃ j cl',(S j).2.2∧Sim X.n X.base X.w0 X.F (· < cl') (mk ((S j).1++T0) ((S j).2.1++H0)) a w) :=
 metI (S:=fun i=>mk ((S i).1++T0) ((S i).2.1++H0)) (I:=fun i=>(S i).2.2) j rfl hI (eT.ap (lkS kT)) (eH.ap (hkS kH))
end
end Go.Ar
namespace Go.Ar
open Go.RowKit
noncomputable abbrev PP:=Go.Proofs.Tryz.prog
abbrev GV:List (Nat × Array Value × TypeId):=[(0,#[.int .u8 0,.int .u8 1,.int .u8 28,.int .u8 2,.int .u8 29,.int .u8 14,.int .u8 24,.int .u8 3,.int .u8 30,.int .u8 22,.int .u8 20,.int .u8 15,.int .u8 25,.int .u8 17,.int .u8 4,.int .u8 8,.int .u8 31,.int .u8 27,.int .u8 13,.int .u8 23,.int .u8 21,.int .u8 19,.int .u8 16,.int .u8 7,.int .u8 26,.int .u8 12,.int .u8 18,.int .u8 6,.int .u8 11,.int .u8 5,.int .u8 10,.int .u8 9],120)]
theorem ar25:ar PP 25=some (2,3,1):=by kernel_rfl
theorem ar88:ar PP 88=some (8,3,1):=by kernel_rfl
theorem ar120:ar PP 120=some (32,5,1):=by kernel_rfl
theorem at4:PP.funcs[4]? = some Go.Proofs.Tryz.f4:=by kernel_rfl
theorem at5:PP.funcs[5]? = some Go.Proofs.Tryz.f5:=by kernel_rfl
theorem at6:PP.funcs[6]? = some Go.Proofs.Tryz.f6:=by kernel_rfl
theorem at7:PP.funcs[7]? = some Go.Proofs.Tryz.f7:=by kernel_rfl
theorem at9:PP.funcs[9]? = some Go.Proofs.Tryz.f9:=by kernel_rfl
theorem at10:PP.funcs[10]? = some Go.Proofs.Tryz.f10:=by kernel_rfl
theorem at11:PP.funcs[11]? = some Go.Proofs.Tryz.f11:=by kernel_rfl
theorem at12:PP.funcs[12]? = some Go.Proofs.Tryz.f12:=by kernel_rfl
theorem at13:PP.funcs[13]? = some Go.Proofs.Tryz.f13:=by kernel_rfl
theorem at14:PP.funcs[14]? = some Go.Proofs.Tryz.f14:=by kernel_rfl
theorem at15:PP.funcs[15]? = some Go.Proofs.Tryz.f15:=by kernel_rfl
theorem at16:PP.funcs[16]? = some Go.Proofs.Tryz.f16:=by kernel_rfl
theorem at17:PP.funcs[17]? = some Go.Proofs.Tryz.f17:=by kernel_rfl
theorem at18:PP.funcs[18]? = some Go.Proofs.Tryz.f18:=by kernel_rfl
theorem at19:PP.funcs[19]? = some Go.Proofs.Tryz.f19:=by kernel_rfl
theorem at20:PP.funcs[20]? = some Go.Proofs.Tryz.f20:=by kernel_rfl
theorem at21:PP.funcs[21]? = some Go.Proofs.Tryz.f21:=by kernel_rfl
theorem at24:PP.funcs[24]? = some Go.Proofs.Tryz.f24:=by kernel_rfl
theorem at28:PP.funcs[28]? = some Go.Proofs.Tryz.f28:=by kernel_rfl
theorem at29:PP.funcs[29]? = some Go.Proofs.Tryz.f29:=by kernel_rfl
theorem at30:PP.funcs[30]? = some Go.Proofs.Tryz.f30:=by kernel_rfl
theorem at31:PP.funcs[31]? = some Go.Proofs.Tryz.f31:=by kernel_rfl
theorem at32:PP.funcs[32]? = some Go.Proofs.Tryz.f32:=by kernel_rfl
theorem at33:PP.funcs[33]? = some Go.Proofs.Tryz.f33:=by kernel_rfl
theorem at34:PP.funcs[34]? = some Go.Proofs.Tryz.f34:=by kernel_rfl
theorem at35:PP.funcs[35]? = some Go.Proofs.Tryz.f35:=by kernel_rfl
theorem at36:PP.funcs[36]? = some Go.Proofs.Tryz.f36:=by kernel_rfl
theorem at37:PP.funcs[37]? = some Go.Proofs.Tryz.f37:=by kernel_rfl
theorem at38:PP.funcs[38]? = some Go.Proofs.Tryz.f38:=by kernel_rfl
theorem at39:PP.funcs[39]? = some Go.Proofs.Tryz.f39:=by kernel_rfl
theorem at40:PP.funcs[40]? = some Go.Proofs.Tryz.f40:=by kernel_rfl
theorem at41:PP.funcs[41]? = some Go.Proofs.Tryz.f41:=by kernel_rfl
theorem at42:PP.funcs[42]? = some Go.Proofs.Tryz.f42:=by kernel_rfl
theorem at43:PP.funcs[43]? = some Go.Proofs.Tryz.f43:=by kernel_rfl
theorem at44:PP.funcs[44]? = some Go.Proofs.Tryz.f44:=by kernel_rfl
theorem at48:PP.funcs[48]? = some Go.Proofs.Tryz.f48:=by kernel_rfl
theorem at52:PP.funcs[52]? = some Go.Proofs.Tryz.f52:=by kernel_rfl
theorem at53:PP.funcs[53]? = some Go.Proofs.Tryz.f53:=by kernel_rfl
theorem at54:PP.funcs[54]? = some Go.Proofs.Tryz.f54:=by kernel_rfl
theorem at55:PP.funcs[55]? = some Go.Proofs.Tryz.f55:=by kernel_rfl
theorem at56:PP.funcs[56]? = some Go.Proofs.Tryz.f56:=by kernel_rfl
theorem at57:PP.funcs[57]? = some Go.Proofs.Tryz.f57:=by kernel_rfl
theorem at58:PP.funcs[58]? = some Go.Proofs.Tryz.f58:=by kernel_rfl
theorem at59:PP.funcs[59]? = some Go.Proofs.Tryz.f59:=by kernel_rfl
theorem at60:PP.funcs[60]? = some Go.Proofs.Tryz.f60:=by kernel_rfl
theorem at61:PP.funcs[61]? = some Go.Proofs.Tryz.f61:=by kernel_rfl
theorem at62:PP.funcs[62]? = some Go.Proofs.Tryz.f62:=by kernel_rfl
theorem at63:PP.funcs[63]? = some Go.Proofs.Tryz.f63:=by kernel_rfl
theorem at64:PP.funcs[64]? = some Go.Proofs.Tryz.f64:=by kernel_rfl
theorem at65:PP.funcs[65]? = some Go.Proofs.Tryz.f65:=by kernel_rfl
theorem at66:PP.funcs[66]? = some Go.Proofs.Tryz.f66:=by kernel_rfl
theorem at67:PP.funcs[67]? = some Go.Proofs.Tryz.f67:=by kernel_rfl
theorem at68:PP.funcs[68]? = some Go.Proofs.Tryz.f68:=by kernel_rfl
theorem at69:PP.funcs[69]? = some Go.Proofs.Tryz.f69:=by kernel_rfl
theorem at70:PP.funcs[70]? = some Go.Proofs.Tryz.f70:=by kernel_rfl
theorem at71:PP.funcs[71]? = some Go.Proofs.Tryz.f71:=by kernel_rfl
theorem at79:PP.funcs[79]? = some Go.Proofs.Tryz.f79:=by kernel_rfl
theorem at81:PP.funcs[81]? = some Go.Proofs.Tryz.f81:=by kernel_rfl
theorem at82:PP.funcs[82]? = some Go.Proofs.Tryz.f82:=by kernel_rfl
theorem at83:PP.funcs[83]? = some Go.Proofs.Tryz.f83:=by kernel_rfl
theorem at84:PP.funcs[84]? = some Go.Proofs.Tryz.f84:=by kernel_rfl
theorem at85:PP.funcs[85]? = some Go.Proofs.Tryz.f85:=by kernel_rfl
theorem at86:PP.funcs[86]? = some Go.Proofs.Tryz.f86:=by kernel_rfl
theorem at87:PP.funcs[87]? = some Go.Proofs.Tryz.f87:=by kernel_rfl
theorem at88:PP.funcs[88]? = some Go.Proofs.Tryz.f88:=by kernel_rfl
theorem at89:PP.funcs[89]? = some Go.Proofs.Tryz.f89:=by kernel_rfl
theorem at90:PP.funcs[90]? = some Go.Proofs.Tryz.f90:=by kernel_rfl
theorem at91:PP.funcs[91]? = some Go.Proofs.Tryz.f91:=by kernel_rfl
theorem at92:PP.funcs[92]? = some Go.Proofs.Tryz.f92:=by kernel_rfl
theorem at93:PP.funcs[93]? = some Go.Proofs.Tryz.f93:=by kernel_rfl
theorem at94:PP.funcs[94]? = some Go.Proofs.Tryz.f94:=by kernel_rfl
theorem at95:PP.funcs[95]? = some Go.Proofs.Tryz.f95:=by kernel_rfl
theorem at96:PP.funcs[96]? = some Go.Proofs.Tryz.f96:=by kernel_rfl
theorem at97:PP.funcs[97]? = some Go.Proofs.Tryz.f97:=by kernel_rfl
theorem at102:PP.funcs[102]? = some Go.Proofs.Tryz.f102:=by kernel_rfl
theorem at103:PP.funcs[103]? = some Go.Proofs.Tryz.f103:=by kernel_rfl
theorem at104:PP.funcs[104]? = some Go.Proofs.Tryz.f104:=by kernel_rfl
theorem at105:PP.funcs[105]? = some Go.Proofs.Tryz.f105:=by kernel_rfl
theorem at106:PP.funcs[106]? = some Go.Proofs.Tryz.f106:=by kernel_rfl
theorem at107:PP.funcs[107]? = some Go.Proofs.Tryz.f107:=by kernel_rfl
theorem at108:PP.funcs[108]? = some Go.Proofs.Tryz.f108:=by kernel_rfl
theorem at109:PP.funcs[109]? = some Go.Proofs.Tryz.f109:=by kernel_rfl
theorem at111:PP.funcs[111]? = some Go.Proofs.Tryz.f111:=by kernel_rfl
theorem at112:PP.funcs[112]? = some Go.Proofs.Tryz.f112:=by kernel_rfl
theorem at113:PP.funcs[113]? = some Go.Proofs.Tryz.f113:=by kernel_rfl
theorem at114:PP.funcs[114]? = some Go.Proofs.Tryz.f114:=by kernel_rfl
theorem at115:PP.funcs[115]? = some Go.Proofs.Tryz.f115:=by kernel_rfl
theorem at116:PP.funcs[116]? = some Go.Proofs.Tryz.f116:=by kernel_rfl
theorem at117:PP.funcs[117]? = some Go.Proofs.Tryz.f117:=by kernel_rfl
theorem at118:PP.funcs[118]? = some Go.Proofs.Tryz.f118:=by kernel_rfl
theorem at125:PP.funcs[125]? = some Go.Proofs.Tryz.f125:=by kernel_rfl
theorem at126:PP.funcs[126]? = some Go.Proofs.Tryz.f126:=by kernel_rfl
theorem at127:PP.funcs[127]? = some Go.Proofs.Tryz.f127:=by kernel_rfl
theorem at128:PP.funcs[128]? = some Go.Proofs.Tryz.f128:=by kernel_rfl
theorem at129:PP.funcs[129]? = some Go.Proofs.Tryz.f129:=by kernel_rfl
theorem at130:PP.funcs[130]? = some Go.Proofs.Tryz.f130:=by kernel_rfl
theorem at131:PP.funcs[131]? = some Go.Proofs.Tryz.f131:=by kernel_rfl
theorem at132:PP.funcs[132]? = some Go.Proofs.Tryz.f132:=by kernel_rfl
theorem at133:PP.funcs[133]? = some Go.Proofs.Tryz.f133:=by kernel_rfl
theorem at134:PP.funcs[134]? = some Go.Proofs.Tryz.f134:=by kernel_rfl
theorem at135:PP.funcs[135]? = some Go.Proofs.Tryz.f135:=by kernel_rfl
theorem at136:PP.funcs[136]? = some Go.Proofs.Tryz.f136:=by kernel_rfl
theorem at139:PP.funcs[139]? = some Go.Proofs.Tryz.f139:=by kernel_rfl
theorem at140:PP.funcs[140]? = some Go.Proofs.Tryz.f140:=by kernel_rfl
theorem at141:PP.funcs[141]? = some Go.Proofs.Tryz.f141:=by kernel_rfl
theorem at142:PP.funcs[142]? = some Go.Proofs.Tryz.f142:=by kernel_rfl
theorem at143:PP.funcs[143]? = some Go.Proofs.Tryz.f143:=by kernel_rfl
theorem at144:PP.funcs[144]? = some Go.Proofs.Tryz.f144:=by kernel_rfl
theorem at145:PP.funcs[145]? = some Go.Proofs.Tryz.f145:=by kernel_rfl
theorem at146:PP.funcs[146]? = some Go.Proofs.Tryz.f146:=by kernel_rfl
theorem at147:PP.funcs[147]? = some Go.Proofs.Tryz.f147:=by kernel_rfl
theorem at148:PP.funcs[148]? = some Go.Proofs.Tryz.f148:=by kernel_rfl
theorem at149:PP.funcs[149]? = some Go.Proofs.Tryz.f149:=by kernel_rfl
theorem at150:PP.funcs[150]? = some Go.Proofs.Tryz.f150:=by kernel_rfl
theorem at151:PP.funcs[151]? = some Go.Proofs.Tryz.f151:=by kernel_rfl
theorem at152:PP.funcs[152]? = some Go.Proofs.Tryz.f152:=by kernel_rfl
theorem at153:PP.funcs[153]? = some Go.Proofs.Tryz.f153:=by kernel_rfl
theorem at154:PP.funcs[154]? = some Go.Proofs.Tryz.f154:=by kernel_rfl
theorem at155:PP.funcs[155]? = some Go.Proofs.Tryz.f155:=by kernel_rfl
theorem at156:PP.funcs[156]? = some Go.Proofs.Tryz.f156:=by kernel_rfl
theorem at157:PP.funcs[157]? = some Go.Proofs.Tryz.f157:=by kernel_rfl
theorem at158:PP.funcs[158]? = some Go.Proofs.Tryz.f158:=by kernel_rfl
theorem at159:PP.funcs[159]? = some Go.Proofs.Tryz.f159:=by kernel_rfl
theorem bd24:bd PP 24=some ([.int .i64 0,.slice none 0 0],[(0,1),(1,1)]):=by kernel_rfl
theorem bd25:bd PP 25=some ([.int .i64 0,.int .i64 0],[(0,1),(1,1)]):=by kernel_rfl
theorem bd32:bd PP 32=some ([.slice none 0 0,.slice none 0 0,.slice none 0 0],[(0,1),(1,1),(2,1)]):=by kernel_rfl
theorem bd45:bd PP 45=some ([.int .i64 0,.int .i64 0,.int .i64 0,.bool false],[(0,1),(1,1),(2,1),(3,1)]):=by kernel_rfl
theorem bd47:bd PP 47=some ([.int .i64 0,.int .i64 0],[(0,1),(1,1)]):=by kernel_rfl
theorem bd50:bd PP 50=some ([.bool false,.int .i64 0,.int .i64 0,.int .i64 0,.int .i64 0],[(0,1),(1,2),(3,1),(4,1)]):=by kernel_rfl
theorem bd64:bd PP 64=some ([.int .i64 0,.slice none 0 0,.map none,.map none],[(0,1),(1,1),(2,1),(3,1)]):=by kernel_rfl
theorem bd81:bd PP 81=some ([.int .i64 0,.slice none 0 0],[(0,1),(1,1)]):=by kernel_rfl
theorem bd135:bd PP 135=some ([.slice none 0 0,.map none,.map none],[(0,1),(1,1),(2,1)]):=by kernel_rfl
theorem ca5:callable PP 5=true:=by kernel_rfl
theorem ca6:callable PP 6=true:=by kernel_rfl
theorem ca7:callable PP 7=true:=by kernel_rfl
theorem ca9:callable PP 9=true:=by kernel_rfl
theorem ca10:callable PP 10=true:=by kernel_rfl
theorem ca11:callable PP 11=true:=by kernel_rfl
theorem ca12:callable PP 12=true:=by kernel_rfl
theorem ca13:callable PP 13=true:=by kernel_rfl
theorem ca14:callable PP 14=true:=by kernel_rfl
theorem ca15:callable PP 15=true:=by kernel_rfl
theorem ca16:callable PP 16=true:=by kernel_rfl
theorem ca17:callable PP 17=true:=by kernel_rfl
theorem ca18:callable PP 18=true:=by kernel_rfl
theorem ca19:callable PP 19=true:=by kernel_rfl
theorem ca20:callable PP 20=true:=by kernel_rfl
theorem ca21:callable PP 21=true:=by kernel_rfl
theorem ca24:callable PP 24=true:=by kernel_rfl
theorem ca28:callable PP 28=true:=by kernel_rfl
theorem ca29:callable PP 29=true:=by kernel_rfl
theorem ca30:callable PP 30=true:=by kernel_rfl
theorem ca31:callable PP 31=true:=by kernel_rfl
theorem ca32:callable PP 32=true:=by kernel_rfl
theorem ca33:callable PP 33=true:=by kernel_rfl
theorem ca34:callable PP 34=true:=by kernel_rfl
theorem ca35:callable PP 35=true:=by kernel_rfl
theorem ca36:callable PP 36=true:=by kernel_rfl
theorem ca37:callable PP 37=true:=by kernel_rfl
theorem ca38:callable PP 38=true:=by kernel_rfl
theorem ca39:callable PP 39=true:=by kernel_rfl
theorem ca40:callable PP 40=true:=by kernel_rfl
theorem ca41:callable PP 41=true:=by kernel_rfl
theorem ca42:callable PP 42=true:=by kernel_rfl
theorem ca43:callable PP 43=true:=by kernel_rfl
theorem ca44:callable PP 44=true:=by kernel_rfl
theorem ca48:callable PP 48=true:=by kernel_rfl
theorem ca52:callable PP 52=true:=by kernel_rfl
theorem ca53:callable PP 53=true:=by kernel_rfl
theorem ca54:callable PP 54=true:=by kernel_rfl
theorem ca55:callable PP 55=true:=by kernel_rfl
theorem ca56:callable PP 56=true:=by kernel_rfl
theorem ca57:callable PP 57=true:=by kernel_rfl
theorem ca58:callable PP 58=true:=by kernel_rfl
theorem ca59:callable PP 59=true:=by kernel_rfl
theorem ca60:callable PP 60=true:=by kernel_rfl
theorem ca61:callable PP 61=true:=by kernel_rfl
theorem ca62:callable PP 62=true:=by kernel_rfl
theorem ca63:callable PP 63=true:=by kernel_rfl
theorem ca64:callable PP 64=true:=by kernel_rfl
theorem ca65:callable PP 65=true:=by kernel_rfl
theorem ca66:callable PP 66=true:=by kernel_rfl
theorem ca67:callable PP 67=true:=by kernel_rfl
theorem ca68:callable PP 68=true:=by kernel_rfl
theorem ca69:callable PP 69=true:=by kernel_rfl
theorem ca70:callable PP 70=true:=by kernel_rfl
theorem ca71:callable PP 71=true:=by kernel_rfl
theorem ca79:callable PP 79=true:=by kernel_rfl
theorem ca81:callable PP 81=true:=by kernel_rfl
theorem ca82:callable PP 82=true:=by kernel_rfl
theorem ca83:callable PP 83=true:=by kernel_rfl
theorem ca84:callable PP 84=true:=by kernel_rfl
theorem ca85:callable PP 85=true:=by kernel_rfl
theorem ca86:callable PP 86=true:=by kernel_rfl
theorem ca87:callable PP 87=true:=by kernel_rfl
theorem ca88:callable PP 88=true:=by kernel_rfl
theorem ca89:callable PP 89=true:=by kernel_rfl
theorem ca90:callable PP 90=true:=by kernel_rfl
theorem ca91:callable PP 91=true:=by kernel_rfl
theorem ca92:callable PP 92=true:=by kernel_rfl
theorem ca93:callable PP 93=true:=by kernel_rfl
theorem ca94:callable PP 94=true:=by kernel_rfl
theorem ca95:callable PP 95=true:=by kernel_rfl
theorem ca96:callable PP 96=true:=by kernel_rfl
theorem ca97:callable PP 97=true:=by kernel_rfl
theorem ca102:callable PP 102=true:=by kernel_rfl
theorem ca103:callable PP 103=true:=by kernel_rfl
theorem ca104:callable PP 104=true:=by kernel_rfl
theorem ca105:callable PP 105=true:=by kernel_rfl
theorem ca106:callable PP 106=true:=by kernel_rfl
theorem ca107:callable PP 107=true:=by kernel_rfl
theorem ca108:callable PP 108=true:=by kernel_rfl
theorem ca109:callable PP 109=true:=by kernel_rfl
theorem ca111:callable PP 111=true:=by kernel_rfl
theorem ca112:callable PP 112=true:=by kernel_rfl
theorem ca113:callable PP 113=true:=by kernel_rfl
theorem ca114:callable PP 114=true:=by kernel_rfl
theorem ca115:callable PP 115=true:=by kernel_rfl
theorem ca116:callable PP 116=true:=by kernel_rfl
theorem ca117:callable PP 117=true:=by kernel_rfl
theorem ca118:callable PP 118=true:=by kernel_rfl
theorem ca125:callable PP 125=true:=by kernel_rfl
theorem ca126:callable PP 126=true:=by kernel_rfl
theorem ca127:callable PP 127=true:=by kernel_rfl
theorem ca128:callable PP 128=true:=by kernel_rfl
theorem ca129:callable PP 129=true:=by kernel_rfl
theorem ca130:callable PP 130=true:=by kernel_rfl
theorem ca131:callable PP 131=true:=by kernel_rfl
theorem ca132:callable PP 132=true:=by kernel_rfl
theorem ca133:callable PP 133=true:=by kernel_rfl
theorem ca134:callable PP 134=true:=by kernel_rfl
theorem ca135:callable PP 135=true:=by kernel_rfl
theorem ca136:callable PP 136=true:=by kernel_rfl
theorem ca139:callable PP 139=true:=by kernel_rfl
theorem ca140:callable PP 140=true:=by kernel_rfl
theorem ca141:callable PP 141=true:=by kernel_rfl
theorem ca142:callable PP 142=true:=by kernel_rfl
theorem ca143:callable PP 143=true:=by kernel_rfl
theorem ca144:callable PP 144=true:=by kernel_rfl
theorem ca145:callable PP 145=true:=by kernel_rfl
theorem ca146:callable PP 146=true:=by kernel_rfl
theorem ca147:callable PP 147=true:=by kernel_rfl
theorem ca148:callable PP 148=true:=by kernel_rfl
theorem ca149:callable PP 149=true:=by kernel_rfl
theorem ca150:callable PP 150=true:=by kernel_rfl
theorem ca151:callable PP 151=true:=by kernel_rfl
theorem ca152:callable PP 152=true:=by kernel_rfl
theorem ca153:callable PP 153=true:=by kernel_rfl
theorem ca154:callable PP 154=true:=by kernel_rfl
theorem ca155:callable PP 155=true:=by kernel_rfl
theorem ca156:callable PP 156=true:=by kernel_rfl
theorem ca157:callable PP 157=true:=by kernel_rfl
theorem ca158:callable PP 158=true:=by kernel_rfl
theorem ca159:callable PP 159=true:=by kernel_rfl
theorem eg47:PP.eqGuardType PP.depth 47=false:=by kernel_rfl
theorem eg50:PP.eqGuardType PP.depth 50=false:=by kernel_rfl
theorem ev47 (a0:Int) (a1:Int) (b0:Int) (b1:Int):eqv PP 9 47 (.agg #[.int .i64 a0,.int .i64 a1]) (.agg #[.int .i64 b0,.int .i64 b1])=some ((a0 == b0) && ((a1 == b1) && true)):=by kernel_rfl
theorem ev50 (a0:Bool) (a1:Int) (a2:Int) (a3:Int) (a4:Int) (b0:Bool) (b1:Int) (b2:Int) (b3:Int) (b4:Int):eqv PP 9 50 (.agg #[.bool a0,.int .i64 a1,.int .i64 a2,.int .i64 a3,.int .i64 a4]) (.agg #[.bool b0,.int .i64 b1,.int .i64 b2,.int .i64 b3,.int .i64 b4])=some ((a0 == b0) && (((a1 == b1) && ((a2 == b2) && true)) && ((a3 == b3) && ((a4 == b4) && true)))):=by kernel_rfl
theorem fo24_0:fo PP 24 0=some 0:=by kernel_rfl
theorem fo24_1:fo PP 24 1=some 1:=by kernel_rfl
theorem fo32_0:fo PP 32 0=some 0:=by kernel_rfl
theorem fo32_1:fo PP 32 1=some 1:=by kernel_rfl
theorem fo32_2:fo PP 32 2=some 2:=by kernel_rfl
theorem fo45_0:fo PP 45 0=some 0:=by kernel_rfl
theorem fo45_1:fo PP 45 1=some 1:=by kernel_rfl
theorem fo45_2:fo PP 45 2=some 2:=by kernel_rfl
theorem fo45_3:fo PP 45 3=some 3:=by kernel_rfl
theorem fo47_0:fo PP 47 0=some 0:=by kernel_rfl
theorem fo47_1:fo PP 47 1=some 1:=by kernel_rfl
theorem fo50_0:fo PP 50 0=some 0:=by kernel_rfl
theorem fo50_1:fo PP 50 1=some 1:=by kernel_rfl
theorem fo50_2:fo PP 50 2=some 3:=by kernel_rfl
theorem fo50_3:fo PP 50 3=some 4:=by kernel_rfl
theorem fo64_0:fo PP 64 0=some 0:=by kernel_rfl
theorem fo64_1:fo PP 64 1=some 1:=by kernel_rfl
theorem fo64_2:fo PP 64 2=some 2:=by kernel_rfl
theorem fo64_3:fo PP 64 3=some 3:=by kernel_rfl
theorem fo81_0:fo PP 81 0=some 0:=by kernel_rfl
theorem fo81_1:fo PP 81 1=some 1:=by kernel_rfl
theorem fo135_0:fo PP 135 0=some 0:=by kernel_rfl
theorem fo135_1:fo PP 135 1=some 1:=by kernel_rfl
theorem fo135_2:fo PP 135 2=some 2:=by kernel_rfl
theorem mt61:mt PP 61=some (3,3):=by kernel_rfl
theorem mt62:mt PP 62=some (3,41):=by kernel_rfl
theorem mt95:mt PP 95=some (47,3):=by kernel_rfl
theorem se22:se PP 22=some (45,4,[.int .i64 0,.int .i64 0,.int .i64 0,.bool false],32):=by kernel_rfl
theorem se26:se PP 26=some (54,1,[.int .u32 0],4):=by kernel_rfl
theorem se29:se PP 29=some (3,1,[.int .i64 0],8):=by kernel_rfl
theorem se30:se PP 30=some (29,1,[.slice none 0 0],24):=by kernel_rfl
theorem se41:se PP 41=some (47,2,[.int .i64 0,.int .i64 0],16):=by kernel_rfl
theorem se66:se PP 66=some (4,1,[.bool false],1):=by kernel_rfl
theorem sl22:sl PP 22=some (45,4):=by kernel_rfl
theorem sl26:sl PP 26=some (54,1):=by kernel_rfl
theorem sl29:sl PP 29=some (3,1):=by kernel_rfl
theorem sl30:sl PP 30=some (29,1):=by kernel_rfl
theorem sl41:sl PP 41=some (47,2):=by kernel_rfl
theorem sl66:sl PP 66=some (4,1):=by kernel_rfl
theorem slB22:slB PP 22=true:=by kernel_rfl
theorem slB26:slB PP 26=true:=by kernel_rfl
theorem slB29:slB PP 29=true:=by kernel_rfl
theorem slB30:slB PP 30=true:=by kernel_rfl
theorem slB41:slB PP 41=true:=by kernel_rfl
theorem slB66:slB PP 66=true:=by kernel_rfl
theorem tk3:tk PP 3=some (false,1):=by kernel_rfl
theorem tk4:tk PP 4=some (false,1):=by kernel_rfl
theorem tk5:tk PP 5=some (false,1):=by kernel_rfl
theorem tk22:tk PP 22=some (false,1):=by kernel_rfl
theorem tk24:tk PP 24=some (true,2):=by kernel_rfl
theorem tk29:tk PP 29=some (false,1):=by kernel_rfl
theorem tk30:tk PP 30=some (false,1):=by kernel_rfl
theorem tk32:tk PP 32=some (true,3):=by kernel_rfl
theorem tk45:tk PP 45=some (true,4):=by kernel_rfl
theorem tk47:tk PP 47=some (true,2):=by kernel_rfl
theorem tk50:tk PP 50=some (true,5):=by kernel_rfl
theorem tk54:tk PP 54=some (false,1):=by kernel_rfl
theorem tk56:tk PP 56=some (false,1):=by kernel_rfl
theorem tk61:tk PP 61=some (false,1):=by kernel_rfl
theorem tk62:tk PP 62=some (false,1):=by kernel_rfl
theorem tk81:tk PP 81=some (true,2):=by kernel_rfl
theorem tk144:tk PP 144=some (false,1):=by kernel_rfl
theorem ui3:PP.underlying 3=some (.int .i64):=by kernel_rfl
theorem ui5:PP.underlying 5=some (.int .u8):=by kernel_rfl
theorem ui76:PP.underlying 76=some (.int .u64):=by kernel_rfl
theorem ui144:PP.underlying 144=some (.int .u64):=by kernel_rfl
theorem us3:(PP.underlying 3).isSome=true:=by kernel_rfl
theorem us5:(PP.underlying 5).isSome=true:=by kernel_rfl
theorem us76:(PP.underlying 76).isSome=true:=by kernel_rfl
theorem us130:(PP.underlying 130).isSome=true:=by kernel_rfl
theorem uz9:PP.underlying 9=some .string:=by kernel_rfl
theorem zc3:zc PP 3=some [.int .i64 0]:=by kernel_rfl
theorem zc24:zc PP 24=some [.int .i64 0,.slice none 0 0]:=by kernel_rfl
theorem zc32:zc PP 32=some [.slice none 0 0,.slice none 0 0,.slice none 0 0]:=by kernel_rfl
theorem zc45:zc PP 45=some [.int .i64 0,.int .i64 0,.int .i64 0,.bool false]:=by kernel_rfl
theorem zc47:zc PP 47=some [.int .i64 0,.int .i64 0]:=by kernel_rfl
theorem zc50:zc PP 50=some [.bool false,.int .i64 0,.int .i64 0,.int .i64 0,.int .i64 0]:=by kernel_rfl
theorem zc56:zc PP 56=some [.pointer none]:=by kernel_rfl
theorem zc81:zc PP 81=some [.int .i64 0,.slice none 0 0]:=by kernel_rfl
theorem zc88:zc PP 88=some [.int .i64 0,.int .i64 0,.int .i64 0,.int .i64 0,.int .i64 0,.int .i64 0,.int .i64 0,.int .i64 0]:=by kernel_rfl
theorem zc144:zc PP 144=some [.int .u64 0]:=by kernel_rfl
theorem zo3:zo PP 3=some (.int .i64 0):=by kernel_rfl
theorem zo41:zo PP 41=some (.slice none 0 0):=by kernel_rfl
theorem mixed:PP.follows .mixedOrders=true:=by kernel_rfl
end Go.Ar
namespace Go.Ar
open Go.RowKit
abbrev I (x:Int):AV:=.v (.int .i64 x)
abbrev J (k:IntKind) (x:Int):AV:=.v (.int k x)
abbrev B (x:Bool):AV:=.v (.bool x)
abbrev SL {α:Type} (sz:Nat) (f:α→AV) (l:List α):AV:=.lst false sz (l.map f)
abbrev AR {α:Type} (f:α→AV) (l:List α):AV:=.agg (l.map f)
abbrev FP {α:Type} (f:α→AV) (x:α):AV:=.fptr (f x) 0
abbrev FM {κ ν:Type} [DecidableEq κ] (ek:κ→Value) (ev:ν→AV) (m:Mp κ ν):AV:=.fmp (encM ek ev m)
abbrev w64 (x:Int):Int:=IntKind.i64.wrap x
abbrev shlV (k:IntKind) (p q:Int):Int:=k.wrap (p * 2 ^ (min q.toNat k.bits))
abbrev shrV (k:IntKind) (p q:Int):Int:=p.fdiv (2 ^ (min q.toNat k.bits))
abbrev andV (k:IntKind) (p q:Int):Int:=k.wrap (BitVec.ofInt k.bits p &&& BitVec.ofInt k.bits q).toNat
abbrev xorV (k:IntKind) (p q:Int):Int:=k.wrap (BitVec.ofInt k.bits p ^^^ BitVec.ofInt k.bits q).toNat
def deB32L:List Int:=[0,1,28,2,29,14,24,3,30,22,20,15,25,17,4,8,31,27,13,23,21,19,16,7,26,12,18,6,11,5,10,9]
def strTab1:List Int:=[0,1,2,2,3,3,3,3,4,4,4,4,4,4,4,4,5,5,5,5,5,5,5,5,5,5,5,5,5,5,5,5,6,6,6,6,6,6,6,6,6,6,6,6,6,6,6,6,6,6,6,6,6,6,6,6,6,6,6,6,6,6,6,6,7,7,7,7,7,7,7,7,7,7,7,7,7,7,7,7,7,7,7,7,7,7,7,7,7,7,7,7,7,7,7,7,7,7,7,7,7,7,7,7,7,7,7,7,7,7,7,7,7,7,7,7,7,7,7,7,7,7,7,7,7,7,7,7,8,8,8,8,8,8,8,8,8,8,8,8,8,8,8,8,8,8,8,8,8,8,8,8,8,8,8,8,8,8,8,8,8,8,8,8,8,8,8,8,8,8,8,8,8,8,8,8,8,8,8,8,8,8,8,8,8,8,8,8,8,8,8,8,8,8,8,8,8,8,8,8,8,8,8,8,8,8,8,8,8,8,8,8,8,8,8,8,8,8,8,8,8,8,8,8,8,8,8,8,8,8,8,8,8,8,8,8,8,8,8,8,8,8,8,8,8,8,8,8,8,8,8,8,8,8,8,8]
theorem pu_I (x:Int):Pu (I x):=.v _
theorem pu_J (k:IntKind) (x:Int):Pu (J k x):=.v _
theorem pu_B (x:Bool):Pu (B x):=.v _
theorem pu_fp {α:Type}{f:α→AV} (hf:∀ a,Pu (f a)) (x:α):Pu (FP f x):=.fptr _ _ (hf x)
abbrev PO {α:Type} (f:α→AV):Option α→AV
 | none=>.v (.pointer none)
 | some x=>.fptr (f x) 0
theorem pu_po {α:Type}{f:α→AV} (hf:∀ a,Pu (f a)) (x:Option α):Pu (PO f x):=by
 cases x with
 | none=>exact .v _
 | some x=>exact .fptr _ _ (hf x)
theorem PuL.all {xs:List AV} (h:PuL xs):∀ x∈xs,Pu x:=by
 induction h with
 | nil=>simp
 | cons h _ ih =>
  intro x hx
  rcases List.mem_cons.1 hx with rfl | hx
  ·exact h
  ·exact ih x hx
theorem PuL.of {xs:List AV} (h:∀ x∈xs,Pu x):PuL xs:=by
 induction xs with
 | nil=>exact .nil
 | cons x xs ih=>exact .cons (h x (by simp)) (ih fun y hy=>h y (by simp [hy]))
theorem pu_fn {f:Fn}{a b:List AV} (ha:PuL a) (hb:PuL b):Pu (.fn f a b):=.fn _ _ _ ha.all hb.all
theorem puL3 {a b c:List AV} (ha:PuL a) (hb:PuL b) (hc:PuL c):PuL (a++b++c):=.of (by
 intro x hx
 rcases List.mem_append.1 hx with hx | hx
 ·rcases List.mem_append.1 hx with hx | hx
  ·exact ha.all x hx
  ·exact hb.all x hx
 ·exact hc.all x hx)
theorem pu_fm {κ ν:Type} [DecidableEq κ] (ek:κ→Value) {ev:ν→AV} (hf:∀ a,Pu (ev a)) (m:Mp κ ν):Pu (FM ek ev m):=.fmp _ (by
 intro p hp
 obtain ⟨q,_,rfl⟩:=List.mem_map.1 hp
 exact hf _)
instance puIP1 {κ ν:Type} [DecidableEq κ] {ek:κ→Value}{ev:ν→AV}{m:Mp κ ν} [h:∀ a,PU (ev a)]:PU (.fmp (encM ek ev m)):=⟨pu_fm ek (fun a=>(h a).p) m⟩
structure Ed where
 u:Int
 v:Int
 deriving DecidableEq
abbrev EdA (e:Ed):AV:=.agg [(I e.u),(I e.v)]
theorem pu_Ed (e:Ed):Pu (EdA e):=pu_a (.cons (pu_I _) (.cons (pu_I _) (.nil)))
structure Ti where
 u:Int
 v:Int
 level:Int
 tree:Bool
 deriving DecidableEq
abbrev TiA (e:Ti):AV:=.agg [(I e.u),(I e.v),(I e.level),(B e.tree)]
theorem pu_Ti (e:Ti):Pu (TiA e):=pu_a (.cons (pu_I _) (.cons (pu_I _) (.cons (pu_I _) (.cons (pu_B _) (.nil)))))
structure Gr where
 n:Int
 ties:(List Ti)
 deriving DecidableEq
abbrev GrA (e:Gr):AV:=.agg [(I e.n),((SL 4 TiA) e.ties)]
theorem pu_Gr (e:Gr):Pu (GrA e):=pu_a (.cons (pu_I _) (.cons ((pu_l 4 pu_Ti) _) (.nil)))
structure Tw where
 tokens:(List Int)
 heights:(List Int)
 next:(List (List Int))
 deriving DecidableEq
abbrev TwA (e:Tw):AV:=.agg [((SL 1 I) e.tokens),((SL 1 I) e.heights),((SL 1 (SL 1 I)) e.next)]
structure Lo where
 found:Bool
 by_:Ed
 rounds:Int
 nodes:Int
 deriving DecidableEq
abbrev LoA (e:Lo):AV:=.agg [(B e.found),(I e.by_.u),(I e.by_.v),(I e.rounds),(I e.nodes)]
structure Fo where
 n:Int
 rings:(List (List Int))
 deriving DecidableEq
abbrev FoA (e:Fo):AV:=.agg [(I e.n),((SL 1 (SL 1 I)) e.rings)]
theorem pu_Fo (e:Fo):Pu (FoA e):=pu_a (.cons (pu_I _) (.cons ((pu_l 1 (pu_l 1 pu_I)) _) (.nil)))
structure Seek_tree_ where
 n:Int
 tokens:(List Int)
 of_:(Mp Int Int)
 outside:(Mp Int (List Ed))
abbrev Seek_tree_A (e:Seek_tree_):AV:=.agg [(I e.n),((SL 1 I) e.tokens),((FM (Value.int .i64) I) e.of_),((FM (Value.int .i64) (SL 2 EdA)) e.outside)]
theorem pu_Seek_tree_ (e:Seek_tree_):Pu (Seek_tree_A e):=pu_a (.cons (pu_I _) (.cons ((pu_l 1 pu_I) _) (.cons ((pu_fm _ pu_I) _) (.cons ((pu_fm _ (pu_l 2 pu_Ed)) _) (.nil)))))
structure Tour_walk_ where
 way:(List Int)
 came:(Mp Int Int)
 met:(Mp Int Int)
end Go.Ar
namespace Go.Ar
open Go.RowKit
def EdK (e:Ed):Value:=.agg #[.int .i64 e.u,.int .i64 e.v]
theorem EdK_inj (a b:Ed) (h:EdK a=EdK b):a=b:=by
 cases a;cases b
 simp [EdK] at h
 obtain ⟨rfl,rfl⟩:=h
 rfl
theorem eq_Ed (a b:Ed) (w:World):(Op.equal 47 (EdK a) (EdK b)).run PP w = .ok (decide (a=b)) w:=by
 have h:=eqv_run 9 47 (EdK a) (EdK b) _ (ev47 a.u a.v b.u b.v) Op.maxDepth (by decide) w
 have e:(a.u == b.u && (a.v == b.v && true))=decide (a=b):=by
  cases a;cases b;rw [Bool.eq_iff_iff];simp
 rw [e] at h
 exact h
theorem find_Ed (x : Ed) (w : World) : ∀ (es : List MapEntry) (i : Nat), (∀ e ∈ es, ∃ k, e.key = EdK k) →
    ((Instr.findAsking 47 (EdK x) es i).run PP w = .ok none w∧∀ e∈es,e.key≠EdK x)∨∃ j e,(Instr.findAsking 47 (EdK x) es i).run PP w = .ok (some (i+j,e.val)) w∧es[j]? = some e∧e.key=EdK x:=by
 intro es
 induction es with
 | nil=>intro i _;exact .inl ⟨rfl,by simp⟩
 | cons e es ih =>
  intro i h
  obtain ⟨b,hb⟩:=h e (by simp)
  unfold Instr.findAsking
  rw [hb,run_bind_ok (eq_Ed x b w)]
  by_cases hab:x=b
  ·subst hab
   right
   exact ⟨0,e,by simp [pure,Sem.run],rfl,hb⟩
  ·simp only [hab,decide_false,Bool.false_eq_true,if_false]
   rcases ih (i+1) (fun e he=>h e (by simp [he])) with ⟨h1,h2⟩ | ⟨j,e',h1,h2,h3⟩
   ·left
    refine ⟨h1,?_⟩
    intro e'' he''
    rcases List.mem_cons.1 he'' with rfl | he''
    ·rw [hb];intro e;exact hab (EdK_inj _ _ e).symm
    ·exact h2 e'' he''
   ·right
    exact ⟨j+1,e',by rw [h1,show i+(j+1)=i+1+j from by omega],by simpa using h2,h3⟩
theorem under_Ed:∃ fs,PP.underlying 47=some (.struct fs):=by
 have h:(match PP.underlying 47 with | some (.struct _)=>true | _=>false)=true:=by kernel_rfl
 split at h
 ·next fs hf=>exact ⟨fs,hf⟩
 ·cases h
theorem same_Ed (n:Nat) (e:Ed):Instr.sameBits (n+1) (EdK e) (EdK e)=true:=by simp [EdK,Instr.sameBits]
theorem kEd:KeyE PP 47 EdK where
 key:=⟨fun v=>∃ e,v=EdK e,⟨by
  rintro w em v ⟨e,rfl⟩
  kernel_rfl,by
  rintro w x ⟨x,rfl⟩ es hes
  obtain ⟨fs,hf⟩:=under_Ed
  unfold Instr.findKey
  rw [run_bind_ok (run_underlying hf w)]
  cases es with
  | nil=>exact .inl ⟨rfl,by simp⟩
  | cons e es =>
   have:Instr.findNow (.struct fs) (EdK x) (e::es) 0=none:=by
    obtain ⟨b,hb⟩:=hes e (by simp)
    unfold Instr.findNow
    rw [hb]
    rfl
   rw [this]
   rcases find_Ed x w (e::es) 0 hes with h | ⟨j,e',h1,h2,h3⟩
   ·exact .inl h
   ·exact .inr ⟨j,e',by simpa using h1,h2,h3⟩,by
  rintro w v ⟨e,rfl⟩
  unfold Instr.keyThatStays
  rw [same_Ed 9999 e];rfl⟩,fun k=>⟨k,rfl⟩⟩
 inj:=EdK_inj
theorem w64_of {x:Int} (h1 : -9223372036854775808≤x) (h2:x < 9223372036854775808):w64 x=x:=Go.IntWalk.i64_in x ⟨h1,by omega⟩
theorem w_gq {n:Int}{m:Nat} (hn:n=(m:Int)) (hb:8 * m≤140737488355328):Does PP GV 143 [] [.v (.slice none 0 0),I n] [] [.buf 1 (([]:List Int).map I)] (.own 0 0 1 0 ([]:List Int).length false):=by
 subst hn
 have e1:IntKind.i64.wrap ((m:Int) - IntKind.i64.wrap (0 - 0))=m:=by
  rw [show IntKind.i64.wrap (0 - 0)=0 from rfl]
  exact (w64_of (by omega) (by omega)).trans (by omega)
 refine does_of at143 rfl (le_ok rfl) ?_
 rintro ⟨_,base,w0,F⟩ rfl
 refine reg 1 rfl ?_
 refine asg rfl rfl rfl ?_
 refine dn ?_
 refine at_seq ?_
 refine reg 2 rfl ?_
 refine mv rfl rfl rfl ?_
 refine bn rfl rfl rfl rfl rfl ?_
 refine dn ?_
 refine cd rfl (fun h1=>?_) (fun h1=>?_)
 ·simp at h1;omega
 refine at_skip ?_
 refine at_seq ?_
 refine reg 8 rfl ?_
 iterate 2 refine mv rfl rfl rfl ?_
 refine capN sl29 rfl rfl rfl ?_
 refine mv rfl rfl rfl ?_
 refine lenN sl29 rfl rfl rfl ?_
 iterate 2 refine bn rfl rfl rfl rfl rfl ?_
 refine asg rfl rfl rfl ?_
 refine dn ?_
 refine reg 2 rfl ?_
 refine mv rfl rfl rfl ?_
 refine bn rfl rfl rfl rfl rfl ?_
 refine dn ?_
 refine cd rfl (fun h2=>?_) (fun h2=>?_)
 ·refine reg1 10 rfl ?_
  iterate 2 refine mv rfl rfl rfl ?_
  refine capN sl29 rfl rfl rfl ?_
  refine rg_nslice (gd_of rfl) (ev_of rfl) .none (.some _ _ _ _ 0 (ev_of rfl) rfl) sl29 rfl rfl (lt_ok rfl) ?_
  refine mv rfl rfl rfl ?_
  have h0:0 < m:=by rw [e1] at h2;simp at h2;omega
  refine apM I 1 se29 ui3 e1 h0 (by omega) (by decide) rfl rfl rfl rfl ?_
  refine mv rfl rfl rfl ?_
  refine lenN sl29 rfl rfl rfl ?_
  refine sloF (i:=0) sl29 rfl (Nat.zero_le _) rfl rfl rfl rfl ?_
  refine asg rfl rfl rfl ?_
  refine dn ?_
  refine reg 2 rfl ?_
  refine mv rfl rfl rfl ?_
  refine asg rfl rfl rfl ?_
  refine dn ?_
  refine at_ret ?_
  exact outN (l:=[]) rfl (.inl rfl) rfl rfl pu_I
 ·refine at_skip ?_
  refine reg 2 rfl ?_
  refine mv rfl rfl rfl ?_
  refine asg rfl rfl rfl ?_
  refine dn ?_
  refine at_ret ?_
  refine niloP I 4 1 1 rfl ?_
  exact outN (l:=[]) rfl (.inl rfl) rfl rfl pu_I
end Go.Ar
namespace Go.Ar
open Go.RowKit
def p_cn (K:Nat) (a0:(List Int)) (a1:(List Int)):Nat→Int→Option (Sum Unit Bool)
 | 0,_=>none
 | n+1,v5_1=>(bif (decide (v5_1 < (a0.length:Int))) then (ixP a0 v5_1 fun v2=>(ixP a1 v5_1 fun v4=>(bif (v2 != v4) then some (.inr false) else p_cn K a0 a1 n (w64 (v5_1+1))))) else some (.inl ()))
def p_co (K:Nat) (a0:(List Int)) (a1:(List Int)):Option Bool :=
 (bif ((a0.length:Int) != (a1.length:Int)) then some false else ((p_cn K a0 a1 K 0:Option (Sum Unit Bool)).bind fun | .inl _=>some true | .inr r=>some r))
theorem w_ee {K:Nat}{a0:(List Int)}{a1:(List Int)}{y:Bool} (hy:p_co K a0 a1=some y):Does PP GV 16 [] [((SL 1 I) a0),((SL 1 I) a1)] [] [] (B y):=by
 unfold p_co at hy
 refine does_of at16 r (le_ok r)<|?_
 rintro ⟨_,base,w0,F⟩ rfl
 refine rg r<|at_seq<|reg 5 r<|go 1 r<|lnf (f:=I) slB29 r r r<|go 1 r<|lnf (f:=I) slB29 r r r<|go 1 r<|dn<|cdH r hy (fun hy=>?_) fun hy=>?_
 ·refine rg r<|at_ret<|?_
  obtain rfl:=sj hy
  exact eR r r
 ·refine at_skip<|bkH hy fun o1 hy k1 hk1 hc1=>meetD [] [] r r (fun (p:Unit)=>match p with | _=>([],[],k1 (.inl ())=some y)) ?_ ?_
  ·skip
   refine rg r<|at_block<|loopD [0,1] [] r r (fun (p:Nat × Int)=>match p with | (n2,v5_1)=>([(5,(I v5_1))],[],p_cn K a0 a1 n2 v5_1=some o1)) (K,0) (lk r) .nil hy<|?_
   rintro ⟨n2,v5_1⟩ cl hy
   obtain _ | n2:=n2;· cases hy
   refine nf r r<|?_
   replace hy:_=some _:=hy
   rw [p_cn] at hy
   refine at_seq<|reg 4 r<|go 2 r<|lnf (f:=I) slB29 r r r<|go 1 r<|dn<|cdH r hy (fun hy=>?_) fun hy=>?_
   ·refine at_skip<|at_seq<|at_block<|regd mixed 9 r<|go 2 r<|ixH hy fun i1 v2 qi1 xv2 hy=>fixP (f:=I) sl29 qi1 xv2 r r r r<|fld tk3 r r r r<|go 2 r<|ixH hy fun i3 v4 qi3 xv4 hy=>fixP (f:=I) sl29 qi3 xv4 r r r r<|fld tk3 r r r r<|go 1 r<|dn ⟨by kernel_rfl,?_⟩
    refine cdH r hy (fun hy=>?_) fun hy=>?_
    ·refine rg r<|at_ret<|?_
     obtain rfl:=sj hy
     subst hk1;obtain rfl:=sj hc1
     exact eR r r
    ·refine at_skip<|at_bn<|rg1 r<|againD (n2,(w64 (v5_1+1))) (lk r) .nil r r hy r
   ·exact at_exit<|at_te<|at_te<|at_inBlock<|metD () .nil .nil r r (sj2 hy hc1)
  ·rintro ⟨⟩ cl hy
   subst hk1
   refine nf r r<|rg r<|at_ret<|?_
   obtain rfl:=sj hy
   exact eR r r
def p_da (K:Nat) (a0:(List Ed)) (a1:(List Ed)):Nat→Int→Option (Sum Unit Bool)
 | 0,_=>none
 | n+1,v5_1=>(bif (decide (v5_1 < (a0.length:Int))) then (ixP a0 v5_1 fun v2=>(ixP a1 v5_1 fun v4=>(bif (!((v2.u == v4.u) && ((v2.v == v4.v) && true))) then some (.inr false) else p_da K a0 a1 n (w64 (v5_1+1))))) else some (.inl ()))
def p_ef (K:Nat) (a0:(List Ed)) (a1:(List Ed)):Option Bool :=
 (bif ((a0.length:Int) != (a1.length:Int)) then some false else ((p_da K a0 a1 K 0:Option (Sum Unit Bool)).bind fun | .inl _=>some true | .inr r=>some r))
theorem w_f7 {K:Nat}{a0:(List Ed)}{a1:(List Ed)}{y:Bool} (hy:p_ef K a0 a1=some y):Does PP GV 13 [] [((SL 2 EdA) a0),((SL 2 EdA) a1)] [] [] (B y):=by
 unfold p_ef at hy
 refine does_of at13 r (le_ok r)<|?_
 rintro ⟨_,base,w0,F⟩ rfl
 refine rg r<|at_seq<|reg 5 r<|go 1 r<|lnf (f:=EdA) slB41 r r r<|go 1 r<|lnf (f:=EdA) slB41 r r r<|go 1 r<|dn<|cdH r hy (fun hy=>?_) fun hy=>?_
 ·refine rg r<|at_ret<|?_
  obtain rfl:=sj hy
  exact eR r r
 ·refine at_skip<|bkH hy fun o1 hy k1 hk1 hc1=>meetD [] [] r r (fun (p:Unit)=>match p with | _=>([],[],k1 (.inl ())=some y)) ?_ ?_
  ·skip
   refine rg r<|at_block<|loopD [0,1] [] r r (fun (p:Nat × Int)=>match p with | (n2,v5_1)=>([(5,(I v5_1))],[],p_da K a0 a1 n2 v5_1=some o1)) (K,0) (lk r) .nil hy<|?_
   rintro ⟨n2,v5_1⟩ cl hy
   obtain _ | n2:=n2;· cases hy
   refine nf r r<|?_
   replace hy:_=some _:=hy
   rw [p_da] at hy
   refine at_seq<|reg 4 r<|go 2 r<|lnf (f:=EdA) slB41 r r r<|go 1 r<|dn<|cdH r hy (fun hy=>?_) fun hy=>?_
   ·refine at_skip<|at_seq<|at_block<|regd mixed 9 r<|go 2 r<|ixH hy fun i1 v2 qi1 xv2 hy=>fixP (f:=EdA) sl41 qi1 xv2 r r r r<|fldw tk47 r r r r<|go 2 r<|ixH hy fun i3 v4 qi3 xv4 hy=>fixP (f:=EdA) sl41 qi3 xv4 r r r r<|fldw tk47 r r r r<|rg_neA (gd_of r) (ev_of r) (ev_of r) r r eg47 (ev47 ..) (lt_ok r)<|dn ⟨by kernel_rfl,?_⟩
    refine cdH r hy (fun hy=>?_) fun hy=>?_
    ·refine rg r<|at_ret<|?_
     obtain rfl:=sj hy
     subst hk1;obtain rfl:=sj hc1
     exact eR r r
    ·refine at_skip<|at_bn<|rg1 r<|againD (n2,(w64 (v5_1+1))) (lk r) .nil r r hy r
   ·exact at_exit<|at_te<|at_te<|at_inBlock<|metD () .nil .nil r r (sj2 hy hc1)
  ·rintro ⟨⟩ cl hy
   subst hk1
   refine nf r r<|rg r<|at_ret<|?_
   obtain rfl:=sj hy
   exact eR r r
def p_dN (K:Nat) (a0:Int):Option Bool :=
 some (a0 != a0)
theorem w_fZ {K:Nat}{a0:Int}{y:Bool} (hy:p_dN K a0=some y):Does PP GV 85 [] [(I a0)] [] [] (B y):=by
 unfold p_dN at hy
 refine does_of at85 r (le_ok r)<|?_
 rintro ⟨_,base,w0,F⟩ rfl
 refine rg r<|rg r<|at_ret<|?_
 obtain rfl:=sj hy
 exact eR r r
def p_bk (K:Nat) (a0:Int) (a1:Int):Option Int :=
 ((p_dN K a0).bind fun r1=>((p_dN K a1).bind fun r2=>(bif r1 then (bif r2 then some 0 else some (-1)) else (bif r2 then some 1 else (bif (decide (a0 < a1)) then some (-1) else (bif (decide (a0 > a1)) then some 1 else some 0))))))
theorem w_de {K:Nat}{a0:Int}{a1:Int}{y:Int} (hy:p_bk K a0 a1=some y):Does PP GV 59 [] [(I a0),(I a1)] [] [] (I y):=by
 unfold p_bk at hy
 refine does_of at59 r (le_ok r)<|?_
 rintro ⟨_,base,w0,F⟩ rfl
 refine rg r<|reg 3 r<|go 1 r<|bndH hy fun r1 qr1 hy=>clc (w_fZ qr1) ca85 r r r<|go 1 r<|dn<|reg 3 r<|go 1 r<|bndH hy fun r2 qr2 hy=>clc (w_fZ qr2) ca85 r r r<|go 1 r<|dn<|at_seq<|rg r<|cdH r hy (fun hy=>?_) fun hy=>?_
 ·refine at_seq<|rg r<|cdH r hy (fun hy=>?_) fun hy=>?_
  ·refine rg r<|at_ret<|?_
   obtain rfl:=sj hy
   exact eR r r
  ·refine at_skip<|rg r<|at_ret<|?_
   obtain rfl:=sj hy
   exact eR r r
 ·refine at_skip<|at_seq<|rg r<|cdH r hy (fun hy=>?_) fun hy=>?_
  ·refine rg r<|at_ret<|?_
   obtain rfl:=sj hy
   exact eR r r
  ·refine at_skip<|at_seq<|rg r<|cdH r hy (fun hy=>?_) fun hy=>?_
   ·refine rg r<|at_ret<|?_
    obtain rfl:=sj hy
    exact eR r r
   ·refine at_skip<|at_seq<|rg r<|cdH r hy (fun hy=>?_) fun hy=>?_
    ·refine rg r<|at_ret<|?_
     obtain rfl:=sj hy
     exact eR r r
    ·refine at_skip<|rg r<|at_ret<|?_
     obtain rfl:=sj hy
     exact eR r r
def p_cg (K:Nat) (a0:(List Int)):Nat→Int→Option (Sum Unit Int)
 | 0,_=>none
 | n+1,v8_1=>(bif (decide (v8_1 < (a0.length:Int))) then (ixP a0 v8_1 fun v2=>(bif (v2 != 0) then some (.inr v2) else p_cg K a0 n (w64 (v8_1+1)))) else some (.inl ()))
def p_dY (K:Nat) (a0:(List Int)):Option Int :=
 ((p_cg K a0 K 0:Option (Sum Unit Int)).bind fun | .inl _=>some 0 | .inr r=>some r)
theorem w_gk {K:Nat}{a0:(List Int)}{y:Int} (hy:p_dY K a0=some y):Does PP GV 58 [] [((SL 1 I) a0)] [] [] (I y):=by
 unfold p_dY at hy
 refine does_of at58 r (le_ok r)<|?_
 rintro ⟨_,base,w0,F⟩ rfl
 refine rg r<|rg r<|bkH hy fun o1 hy k1 hk1 hc1=>meetD [3] [] r r (fun (p:Unit)=>match p with | _=>([],[],k1 (.inl ())=some y)) ?_ ?_
 ·skip
  refine reg 3 r<|go 1 r<|lnf (f:=I) slB29 r r r<|go 1 r<|dn<|at_block<|loopD [3,6,7] [] r r (fun (p:Nat × Int)=>match p with | (n2,v8_1)=>([(8,(I v8_1))],[],p_cg K a0 n2 v8_1=some o1)) (K,0) (lk r) .nil hy<|?_
  rintro ⟨n2,v8_1⟩ cl hy
  obtain _ | n2:=n2;· cases hy
  refine nf r r<|?_
  replace hy:_=some _:=hy
  rw [p_cg] at hy
  refine rg r<|at_seq<|cdH r hy (fun hy=>?_) fun hy=>?_
  ·refine at_skip<|at_seq<|at_block<|reg 3 r<|ixH hy fun i1 v2 qi1 xv2 hy=>fixP (f:=I) sl29 qi1 xv2 r r r r<|fld tk3 r r r r<|go 1 r<|dn<|rg r<|cdH r hy (fun hy=>?_) fun hy=>?_
   ·refine rg r<|at_ret<|?_
    obtain rfl:=sj hy
    subst hk1;obtain rfl:=sj hc1
    exact eR r r
   ·refine at_skip<|at_bn<|rg1 r<|againD (n2,(w64 (v8_1+1))) (lk r) .nil r r hy r
  ·exact at_exit<|at_te<|at_te<|at_inBlock<|metD () .nil .nil r r (sj2 hy hc1)
 ·rintro ⟨⟩ cl hy
  subst hk1
  refine nf r r<|rg r<|at_ret<|?_
  obtain rfl:=sj hy
  exact eR r r
def p_cJ (K:Nat) (a0:Ed) (a1:Ed):Option Int :=
 ((p_bk K a0.u a1.u).bind fun r1=>((p_bk K a0.v a1.v).bind fun r2=>((p_dY K [r1,r2]).bind fun r3=>some r3)))
theorem w_fR {K:Nat}{a0:Ed}{a1:Ed}{y:Int} (hy:p_cJ K a0 a1=some y):Does PP GV 57 [] [(EdA a0),(EdA a1)] [] [] (I y):=by
 unfold p_cJ at hy
 refine does_of at57 r (le_ok r)<|?_
 rintro ⟨_,base,w0,F⟩ rfl
 refine reg 3 r<|bx 1 r r r r<|bx 2 r r r r<|go 1 r<|dn<|regd mixed 13 r<|fa fo47_0 r r r<|ld tk3 r r r r r r<|fa fo47_0 r r r<|ld tk3 r r r r r r<|bndH hy fun r1 qr1 hy=>clc (w_de qr1) ca59 r r r<|fa fo47_1 r r r<|ld tk3 r r r r r r<|fa fo47_1 r r r<|ld tk3 r r r r r r<|bndH hy fun r2 qr2 hy=>clc (w_de qr2) ca59 r r r<|bldsF I ([r1,r2]:List Int) 3 pu_I se29 r r r r r r r<|bndH hy fun r3 qr3 hy=>clc (w_gk qr3) ca58 r r r<|go 1 r<|dn ⟨by kernel_rfl,?_⟩
 refine at_ret<|?_
 obtain rfl:=sj hy
 exact eR r r
def p_eT (K:Nat) (a0:Int):Option Int :=
 (((bif (decide (a0≥4294967296)) then some ((shrV .u64 a0 32),32) else some (a0,0)):Option (Int × Int)).bind fun (v0_1,v2_1)=>(((bif (decide (v0_1≥65536)) then some ((shrV .u64 v0_1 16),(w64 (v2_1+16))) else some (v0_1,v2_1)):Option (Int × Int)).bind fun (v0_2,v2_2)=>(((bif (decide (v0_2≥256)) then some ((shrV .u64 v0_2 8),(w64 (v2_2+8))) else some (v0_2,v2_2)):Option (Int × Int)).bind fun (v0_3,v2_3)=>(ixP strTab1 (IntKind.u8.wrap v0_3) fun v2=>some (w64 (v2_3+(w64 v2)))))))
theorem w_gr {K:Nat}{a0:Int}{y:Int} (hy:p_eT K a0=some y):Does PP GV 111 [] [((J .u64) a0)] [] [] (I y):=by
 unfold p_eT at hy
 refine does_of at111 r (le_ok r)<|?_
 rintro ⟨_,base,w0,F⟩ rfl
 refine rg r<|bkH hy fun o1 hy k1 hk1 hc1=>meetD [] [] r r (fun (p:Int × Int)=>match p with | (v0_1,v2_1)=>([(0,((J .u64) v0_1)),(2,(I v2_1))],[],k1 (v0_1,v2_1)=some y)) ?_ ?_
 ·skip
  refine rg r<|cdH r hy (fun hy=>?_) fun hy=>?_
  ·exact reg 3 r<|go 1 r<|shr r r r r (by decide)<|go 1 r<|dn<|rg1 r<|metD ((shrV .u64 a0 32),32) (lk r) .nil r r (sj2 hy hc1)
  ·exact at_skip<|metD (a0,0) (lk r) .nil r r (sj2 hy hc1)
 ·rintro ⟨v0_1,v2_1⟩ cl hy
  subst hk1
  refine nf r r<|bkH hy fun o2 hy k2 hk2 hc2=>meetD [] [] r r (fun (p:Int × Int)=>match p with | (v0_2,v2_2)=>([(0,((J .u64) v0_2)),(2,(I v2_2))],[],k2 (v0_2,v2_2)=some y)) ?_ ?_
  ·skip
   refine rg r<|cdH r hy (fun hy=>?_) fun hy=>?_
   ·exact reg 3 r<|go 1 r<|shr r r r r (by decide)<|go 1 r<|dn<|rg1 r<|metD ((shrV .u64 v0_1 16),(w64 (v2_1+16))) (lk r) .nil r r (sj2 hy hc2)
   ·exact at_skip<|metD (v0_1,v2_1) (lk r) .nil r r (sj2 hy hc2)
  ·rintro ⟨v0_2,v2_2⟩ cl hy
   subst hk2
   refine nf r r<|bkH hy fun o3 hy k3 hk3 hc3=>meetD [] [] r r (fun (p:Int × Int)=>match p with | (v0_3,v2_3)=>([(0,((J .u64) v0_3)),(2,(I v2_3))],[],k3 (v0_3,v2_3)=some y)) ?_ ?_
   ·skip
    refine rg r<|cdH r hy (fun hy=>?_) fun hy=>?_
    ·exact reg 3 r<|go 1 r<|shr r r r r (by decide)<|go 1 r<|dn<|rg1 r<|metD ((shrV .u64 v0_2 8),(w64 (v2_2+8))) (lk r) .nil r r (sj2 hy hc3)
    ·exact at_skip<|metD (v0_2,v2_2) (lk r) .nil r r (sj2 hy hc3)
   ·rintro ⟨v0_3,v2_3⟩ cl hy
    subst hk3
    refine nf r r<|reg 7 r<|go 2 r<|rg_conv (gd_of r) (ev_of r) us130 ui5 (lt_ok r)<|ixH hy fun i1 v2 qi1 xv2 hy=>ixS (l:=strTab1) uz9 qi1 xv2 (by kernel_rfl) r r r<|rg_conv (gd_of r) (ev_of r) us5 ui3 (lt_ok r)<|go 2 r<|dn<|at_ret<|?_
    obtain rfl:=sj hy
    exact eR r r
def p_bp (K:Nat) (a0:Int):Option Int :=
 ((p_eT K a0).bind fun r1=>some r1)
theorem w_eA {K:Nat}{a0:Int}{y:Int} (hy:p_bp K a0=some y):Does PP GV 84 [] [((J .u64) a0)] [] [] (I y):=by
 unfold p_bp at hy
 refine does_of at84 r (le_ok r)<|?_
 rintro ⟨_,base,w0,F⟩ rfl
 refine rg r<|at_seq<|at_condc (fun h=>?_) (fun _=>?_)
 ·cases h
 skip
 refine at_skip<|reg 3 r<|go 1 r<|bndH hy fun r1 qr1 hy=>clc (w_gr qr1) ca111 r r r<|go 1 r<|dn<|at_ret<|?_
 obtain rfl:=sj hy
 exact eR r r
def p_bK (K:Nat) (a0:Int):Option (Int × Int) :=
 some ((xorV .u64 (xorV .u64 (xorV .u64 a0 (shlV .u64 a0 13)) (shrV .u64 (xorV .u64 a0 (shlV .u64 a0 13)) 7)) (shlV .u64 (xorV .u64 (xorV .u64 a0 (shlV .u64 a0 13)) (shrV .u64 (xorV .u64 a0 (shlV .u64 a0 13)) 7)) 17)),(xorV .u64 (xorV .u64 (xorV .u64 a0 (shlV .u64 a0 13)) (shrV .u64 (xorV .u64 a0 (shlV .u64 a0 13)) 7)) (shlV .u64 (xorV .u64 (xorV .u64 a0 (shlV .u64 a0 13)) (shrV .u64 (xorV .u64 a0 (shlV .u64 a0 13)) 7)) 17)))
theorem w_eX {K:Nat}{a0:Int}{y:(Int × Int)} (hy:p_bK K a0=some y):Does PP GV 127 [.buf 1 [((J .u64) a0)]] [.ptr 0 0 0 0] [0] [.buf 1 [((J .u64) y.2)]] ((J .u64) y.1):=by
 unfold p_bK at hy
 refine does_of at127 r (le_ok r)<|?_
 rintro ⟨_,base,w0,F⟩ rfl
 refine rg r<|regd mixed 10 r<|go 2 r<|ld tk144 r r r r r r<|go 2 r<|ld tk144 r r r r r r<|shl r r r r (by decide)<|bn2 r r r r r<|go 1 r<|str tk144 r r r r r r r<|dn ⟨by kernel_rfl,?_⟩
 refine regd mixed 10 r<|go 2 r<|ld tk144 r r r r r r<|go 2 r<|ld tk144 r r r r r r<|shr r r r r (by decide)<|bn2 r r r r r<|go 1 r<|str tk144 r r r r r r r<|dn ⟨by kernel_rfl,?_⟩
 refine regd mixed 10 r<|go 2 r<|ld tk144 r r r r r r<|go 2 r<|ld tk144 r r r r r r<|shl r r r r (by decide)<|bn2 r r r r r<|go 1 r<|str tk144 r r r r r r r<|dn ⟨by kernel_rfl,?_⟩
 refine reg 4 r<|go 2 r<|ld tk144 r r r r r r<|go 1 r<|dn<|at_ret<|?_
 obtain rfl:=sj hy
 exact outO1 (g1:=(J .u64)) (l:=[(xorV .u64 (xorV .u64 (xorV .u64 a0 (shlV .u64 a0 13)) (shrV .u64 (xorV .u64 a0 (shlV .u64 a0 13)) 7)) (shlV .u64 (xorV .u64 (xorV .u64 a0 (shlV .u64 a0 13)) (shrV .u64 (xorV .u64 a0 (shlV .u64 a0 13)) 7)) 17))]) r (.inl r) r (pu_J _ _) r (pu_J _)
def p_6 (K:Nat) (a0:Int):Option Int :=
 ((p_bp K (IntKind.u64.wrap a0)).bind fun r1=>(nnP r1 (some (shlV .u64 1 r1))))
theorem w_eR {K:Nat}{a0:Int}{y:Int} (hy:p_6 K a0=some y):Does PP GV 126 [] [(I a0)] [] [] ((J .u64) y):=by
 unfold p_6 at hy
 refine does_of at126 r (le_ok r)<|?_
 rintro ⟨_,base,w0,F⟩ rfl
 refine rg r<|reg 5 r<|go 1 r<|rg_conv (gd_of r) (ev_of r) us3 ui76 (lt_ok r)<|bndH hy fun r1 qr1 hy=>clc (w_eA qr1) ca84 r r r<|?_
 obtain ⟨k2,hy⟩:=nnI hy
 refine shl r r r r k2<|go 1 r<|dn<|at_ret<|?_
 obtain rfl:=sj hy
 exact eR r r
def p_K (K:Nat) (a1:Int) (a2:Int):Nat→Int→Int→(List Ed)→Int→Option (List Ed)
 | 0,_,_,_,_=>none
 | n+1,v10_2,v11_2,l0_2,v1_2=>(bif (decide (v11_2≤(w64 ((w64 (a1+(w64 ((w64 (Int.tdiv (w64 (a2 - a1)) 4)) * 2))))+1)))) then ((p_bK K v1_2).bind fun r2=>(((bif (decide ((w64 (andV .u64 r2.1 (IntKind.u64.wrap (v10_2 - 1))))≥(w64 (a2 - a1)))) then some ((w64 ((w64 (andV .u64 r2.1 (IntKind.u64.wrap (v10_2 - 1)))) - (w64 (a2 - a1)))),r2.2) else some ((w64 (andV .u64 r2.1 (IntKind.u64.wrap (v10_2 - 1)))),r2.2)):Option (Int × Int)).bind fun (v12_1,v1_1)=>(bdP l0_2.length (w64 (a1+v12_1)) fun i3=>gtP l0_2 i3 fun v4=>(bdP l0_2.length v11_2 fun i5=>gtP l0_2 i5 fun v6=>(bdP l0_2.length v11_2 fun i7=>gtP l0_2 i7 fun v8=>(bdP l0_2.length (w64 (a1+v12_1)) fun i9=>gtP (l0_2.set i7 v4) i9 fun v10=>p_K K a1 a2 n v10_2 (w64 (v11_2+1)) ((l0_2.set i7 v4).set i9 v6) v1_1)))))) else some l0_2)
def p_bO (K:Nat) (a0:(List Ed)) (a1:Int) (a2:Int) (a3:(Ed→Ed→Option Int)):Option (List Ed) :=
 (bif (decide ((w64 (a2 - a1))≥8)) then ((p_6 K (w64 (a2 - a1))).bind fun r1=>p_K K a1 a2 K r1 (w64 ((w64 (a1+(w64 ((w64 (Int.tdiv (w64 (a2 - a1)) 4)) * 2)))) - 1)) a0 (IntKind.u64.wrap (w64 (a2 - a1)))) else some a0)
theorem w_ex {K:Nat}{a0:(List Ed)}{a1:Int}{a2:Int}{a3:(Ed→Ed→Option Int)}{y:(List Ed)}{a3f:FuncId}{a3s a3c:List AV} (a3h:∀ {x0:Ed}{x1:Ed}{r:Int},a3 x0 x1=some r→Does PP GV a3f [] (a3s++[(EdA x0),(EdA x1)]++a3c) [] [] (I r)) (a3k:callable PP a3f=true) (a3l:a3s.all flat=true∧a3c.all flat=true) (a3p:PuL a3s) (a3q:PuL a3c) (hy:p_bO K a0 a1 a2 a3=some y):Does PP GV 104 [.buf 2 (a0.map EdA)] [.own 0 0 2 0 a0.length false,(I a1),(I a2),.fn (.func a3f) a3s a3c] [0] [.buf 2 (y.map EdA)] (.tup []):=by
 unfold p_bO at hy
 refine does_of at104 r (le_ok r)<|?_
 rintro ⟨_,base,w0,F⟩ rfl
 refine rg r<|rg r<|cdH r hy (fun hy=>?_) fun hy=>?_
 ·refine reg 4 r<|go 1 r<|rg_conv (gd_of r) (ev_of r) us3 ui144 (lt_ok r)<|rg_alloc (s:=1) (gd_of r) zc144 (elems_one (by rfl)) (lt_ok r)<|str tk144 r r r r r r r<|dn<|reg 3 r<|go 1 r<|bndH hy fun r1 qr1 hy=>clc (w_eR qr1) ca126 r r r<|go 1 r<|dn<|reg 7 r<|go 2 r<|dv r r r r (by decide)<|go 4 r<|dn<|at_block<|loopD [1,8] [] r r (fun (p:Nat × Int × Int × (List Ed) × Int × Nat)=>match p with | (n1,v10_2,v11_2,l0_2,v1_2,g1_1)=>([(0,.own 0 0 2 0 (l0_2).length false),(9,.ptr 1 g1_1 0 0),(10,((J .u64) v10_2)),(11,(I v11_2))],[(0,some (0,.buf 2 (l0_2.map EdA))),(1,some (g1_1,.buf 1 [((J .u64) v1_2)]))],p_K K a1 a2 n1 v10_2 v11_2 l0_2 v1_2=some y)) (K,r1,(w64 ((w64 (a1+(w64 ((w64 (Int.tdiv (w64 (a2 - a1)) 4)) * 2)))) - 1)),a0,(IntKind.u64.wrap (w64 (a2 - a1))),_) (lk r) (hk r) hy<|?_
  rintro ⟨n1,v10_2,v11_2,l0_2,v1_2,g1_1⟩ cl hy
  obtain _ | n1:=n1;· cases hy
  refine nf r r<|?_
  replace hy:_=some _:=hy
  rw [p_K] at hy
  refine at_seq<|reg 8 r<|go 3 r<|dv r r r r (by decide)<|go 4 r<|dn<|cdH r hy (fun hy=>?_) fun hy=>?_
  ·refine at_skip<|at_seq<|at_block<|reg 6 r<|bndH hy fun r2 qr2 hy=>clo1 (g1:=(J .u64)) (l:=[v1_2]) (l':=[r2.2]) (s:=1) (w_eX qr2) ca127 r (.one (pu_J _ _)) r r (pu_J _) ?_ r ?_
   ·exact .cons _ _ _ _ (rnPtr (List.Mem.head _)) (.nil)
   refine go 2 r<|bn2 r r r r r<|rg_conv (gd_of r) (ev_of r) us76 ui3 (lt_ok r)<|go 1 r<|dn<|bkH hy fun o2 hy k2 hk2 hc2=>meetD [0,1,8,10,11] [0] r r (fun (p:Int × Int × Nat)=>match p with | (v12_1,v1_1,g1_2)=>([(9,.ptr 1 g1_2 0 0),(12,(I v12_1))],[(1,some (g1_2,.buf 1 [((J .u64) v1_1)]))],k2 (v12_1,v1_1)=some y)) ?_ ?_
   ·skip
    refine rg r<|cdH r hy (fun hy=>?_) fun hy=>?_
    ·exact rg1 r<|metD ((w64 ((w64 (andV .u64 r2.1 (IntKind.u64.wrap (v10_2 - 1)))) - (w64 (a2 - a1)))),r2.2,_) (lk r) (hk r) r r (sj2 hy hc2)
    ·exact at_skip<|metD ((w64 (andV .u64 r2.1 (IntKind.u64.wrap (v10_2 - 1)))),r2.2,_) (lk r) (hk r) r r (sj2 hy hc2)
   ·rintro ⟨v12_1,v1_1,g1_2⟩ cl hy
    subst hk2
    refine nf r r<|regd1 mixed 20 r<|go 10 r<|bdH hy fun i3 qi3 bi3 hy=>gtH hy fun v4 xv4 hy=>ixP' sl41 qi3 bi3 r r r r<|ldP (f:=EdA) tk47 xv4 r r r r r<|go 2 r<|bdH hy fun i5 qi5 bi5 hy=>gtH hy fun v6 xv6 hy=>ixP' sl41 qi5 bi5 r r r r<|ldP (f:=EdA) tk47 xv6 r r r r r<|bdH hy fun i7 qi7 bi7 hy=>gtH hy fun v8 xv8 hy=>ixP' sl41 qi7 bi7 r r r r<|stP (f:=EdA) (v4) tk47 xv8 r r r r r r<|bdH hy fun i9 qi9 bi9 hy=>gtH hy fun v10 xv10 hy=>ixP' sl41 qi9 bi9 r r r r<|stP (f:=EdA) (v6) tk47 xv10 r r r r r r<|dn ⟨by kernel_rfl,?_⟩
    refine at_bn<|rg1 r<|againD (n1,v10_2,(w64 (v11_2+1)),((l0_2.set i7 v4).set i9 v6),v1_1,_) (.k r (by simp) (.j r (.j r (.j r .nil)))) (hk r) r r hy r
  ·refine at_exit<|at_te<|at_te<|at_inBlock<|?_
   obtain rfl:=sj hy
   exact outO0 (g1:=EdA) r (.inr r) r pu_Ed
 ·refine at_skip<|?_
  obtain rfl:=sj hy
  exact outO0 (g1:=EdA) r (.inr r) r pu_Ed
def p_Y (K:Nat) (a0:(List Ed)) (a1:Int) (a2:Int) (a3:Int) (a4:(Ed→Ed→Option Int)):Option (Int × Int × Int) :=
 (ixP a0 a2 fun v2=>(ixP a0 a1 fun v4=>((a4 v2 v4).bind fun r5=>(bif (decide (r5 < 0)) then some (a2,a1,(w64 (a3+1))) else some (a1,a2,a3)))))
theorem w_cB {K:Nat}{a0:(List Ed)}{a1:Int}{a2:Int}{a3:Int}{a4:(Ed→Ed→Option Int)}{y:(Int × Int × Int)}{a4f:FuncId}{a4s a4c:List AV} (a4h:∀ {x0:Ed}{x1:Ed}{r:Int},a4 x0 x1=some r→Does PP GV a4f [] (a4s++[(EdA x0),(EdA x1)]++a4c) [] [] (I r)) (a4k:callable PP a4f=true) (a4l:a4s.all flat=true∧a4c.all flat=true) (a4p:PuL a4s) (a4q:PuL a4c) (hy:p_Y K a0 a1 a2 a3 a4=some y):Does PP GV 139 [.buf 1 [(I a3)]] [((SL 2 EdA) a0),(I a1),(I a2),.ptr 0 0 0 0,.fn (.func a4f) a4s a4c] [0] [.buf 1 [(I y.2.2)]] (.tup [(I y.1),(I y.2.1)]):=by
 unfold p_Y at hy
 refine does_of at139 r (le_ok r)<|?_
 rintro ⟨_,base,w0,F⟩ rfl
 refine rg r<|at_seq<|regd mixed 11 r<|go 3 r<|ixH hy fun i1 v2 qi1 xv2 hy=>fixP (f:=EdA) sl41 qi1 xv2 r r r r<|fldw tk47 r r r r<|go 2 r<|ixH hy fun i3 v4 qi3 xv4 hy=>fixP (f:=EdA) sl41 qi3 xv4 r r r r<|fldw tk47 r r r r<|bndH hy fun r5 qr5 hy=>clv (a4h qr5) a4k r r r r a4l (puL3 a4p (.cons (pu_Ed _) (.cons (pu_Ed _) (.nil))) a4q) (.one (pu_I _)) r<|go 1 r<|dn ⟨by kernel_rfl,?_⟩
 refine cdH r hy (fun hy=>?_) fun hy=>?_
 ·refine reg 6 r<|go 2 r<|ld tk3 r r r r r r<|go 2 r<|str tk3 r r r r r r r<|dn<|rg r<|at_ret<|?_
  obtain rfl:=sj hy
  exact outOs (g1:=I) (l:=[(w64 (a3+1))]) (rs:=[10,11]) (res2 r) (by simp) (.inl r) (looks_of r) r r pu_I (.cons (pu_I _) (.cons (pu_I _) (.nil)))
 ·refine at_skip<|rg r<|at_ret<|?_
  obtain rfl:=sj hy
  exact outOs (g1:=I) (l:=[a3]) (rs:=[10,11]) (res2 r) (by simp) (.inl r) (looks_of r) r r pu_I (.cons (pu_I _) (.cons (pu_I _) (.nil)))
def p_bJ (K:Nat) (a0:(List Ed)) (a1:Int) (a2:Int) (a3:Int) (a4:Int) (a5:(Ed→Ed→Option Int)):Option (Int × Int) :=
 ((p_Y K a0 a1 a2 a4 a5).bind fun r1=>((p_Y K a0 r1.2.1 a3 r1.2.2 a5).bind fun r2=>((p_Y K a0 r1.1 r2.1 r2.2.2 a5).bind fun r3=>some (r3.2.1,r3.2.2))))
theorem w_dD {K:Nat}{a0:(List Ed)}{a1:Int}{a2:Int}{a3:Int}{a4:Int}{a5:(Ed→Ed→Option Int)}{y:(Int × Int)}{a5f:FuncId}{a5s a5c:List AV} (a5h:∀ {x0:Ed}{x1:Ed}{r:Int},a5 x0 x1=some r→Does PP GV a5f [] (a5s++[(EdA x0),(EdA x1)]++a5c) [] [] (I r)) (a5k:callable PP a5f=true) (a5l:a5s.all flat=true∧a5c.all flat=true) (a5p:PuL a5s) (a5q:PuL a5c) (hy:p_bJ K a0 a1 a2 a3 a4 a5=some y):Does PP GV 129 [.buf 1 [(I a4)]] [((SL 2 EdA) a0),(I a1),(I a2),(I a3),.ptr 0 0 0 0,.fn (.func a5f) a5s a5c] [0] [.buf 1 [(I y.2)]] (I y.1):=by
 unfold p_bJ at hy
 refine does_of at129 r (le_ok r)<|?_
 rintro ⟨_,base,w0,F⟩ rfl
 refine rg r<|reg 11 r<|go 5 r<|bndH hy fun r1 qr1 hy=>clo1 (g1:=I) (l:=[a4]) (l':=[r1.2.2]) (s:=0) (w_cB (a4h:=a5h) (a4k:=a5k) (a4l:=a5l) (a4p:=a5p) (a4q:=a5q) qr1) ca139 r (.tup (.cons (pu_I _) (.cons (pu_I _) (.nil)))) r r pu_I ?_ r ?_
 ·exact .cons _ _ _ _ (.pu _ ((pu_l 2 pu_Ed) _)) (.cons _ _ _ _ (.pu _ (pu_I _)) (.cons _ _ _ _ (.pu _ (pu_I _)) (.cons _ _ _ _ (rnPtr (List.Mem.head _)) (.cons _ _ _ _ (.pu _ (pu_fn a5p a5q)) (.nil)))))
 refine go 5 r<|dn<|reg 11 r<|go 5 r<|bndH hy fun r2 qr2 hy=>clo1 (g1:=I) (l:=[r1.2.2]) (l':=[r2.2.2]) (s:=0) (w_cB (a4h:=a5h) (a4k:=a5k) (a4l:=a5l) (a4p:=a5p) (a4q:=a5q) qr2) ca139 r (.tup (.cons (pu_I _) (.cons (pu_I _) (.nil)))) r r pu_I ?_ r ?_
 ·exact .cons _ _ _ _ (.pu _ ((pu_l 2 pu_Ed) _)) (.cons _ _ _ _ (.pu _ (pu_I _)) (.cons _ _ _ _ (.pu _ (pu_I _)) (.cons _ _ _ _ (rnPtr (List.Mem.head _)) (.cons _ _ _ _ (.pu _ (pu_fn a5p a5q)) (.nil)))))
 refine go 5 r<|dn<|reg 11 r<|go 5 r<|bndH hy fun r3 qr3 hy=>clo1 (g1:=I) (l:=[r2.2.2]) (l':=[r3.2.2]) (s:=0) (w_cB (a4h:=a5h) (a4k:=a5k) (a4l:=a5l) (a4p:=a5p) (a4q:=a5q) qr3) ca139 r (.tup (.cons (pu_I _) (.cons (pu_I _) (.nil)))) r r pu_I ?_ r ?_
 ·exact .cons _ _ _ _ (.pu _ ((pu_l 2 pu_Ed) _)) (.cons _ _ _ _ (.pu _ (pu_I _)) (.cons _ _ _ _ (.pu _ (pu_I _)) (.cons _ _ _ _ (rnPtr (List.Mem.head _)) (.cons _ _ _ _ (.pu _ (pu_fn a5p a5q)) (.nil)))))
 refine go 5 r<|dn<|rg r<|at_ret<|?_
 obtain rfl:=sj hy
 exact outO1 (g1:=I) (l:=[r3.2.2]) r (.inl r) r (pu_I _) r pu_I
def p_u (K:Nat) (a0:(List Ed)) (a1:Int) (a2:Int) (a3:(Ed→Ed→Option Int)):Option (Int × Int) :=
 ((p_bJ K a0 (w64 (a1 - 1)) a1 (w64 (a1+1)) a2 a3).bind fun r1=>some (r1.1,r1.2))
theorem w_bG {K:Nat}{a0:(List Ed)}{a1:Int}{a2:Int}{a3:(Ed→Ed→Option Int)}{y:(Int × Int)}{a3f:FuncId}{a3s a3c:List AV} (a3h:∀ {x0:Ed}{x1:Ed}{r:Int},a3 x0 x1=some r→Does PP GV a3f [] (a3s++[(EdA x0),(EdA x1)]++a3c) [] [] (I r)) (a3k:callable PP a3f=true) (a3l:a3s.all flat=true∧a3c.all flat=true) (a3p:PuL a3s) (a3q:PuL a3c) (hy:p_u K a0 a1 a2 a3=some y):Does PP GV 128 [.buf 1 [(I a2)]] [((SL 2 EdA) a0),(I a1),.ptr 0 0 0 0,.fn (.func a3f) a3s a3c] [0] [.buf 1 [(I y.2)]] (I y.1):=by
 unfold p_u at hy
 refine does_of at128 r (le_ok r)<|?_
 rintro ⟨_,base,w0,F⟩ rfl
 refine rg r<|reg 10 r<|go 8 r<|bndH hy fun r1 qr1 hy=>clo1 (g1:=I) (l:=[a2]) (l':=[r1.2]) (s:=0) (w_dD (a5h:=a3h) (a5k:=a3k) (a5l:=a3l) (a5p:=a3p) (a5q:=a3q) qr1) ca129 r (.one (pu_I _)) r r pu_I ?_ r ?_
 ·exact .cons _ _ _ _ (.pu _ ((pu_l 2 pu_Ed) _)) (.cons _ _ _ _ (.pu _ (pu_I _)) (.cons _ _ _ _ (.pu _ (pu_I _)) (.cons _ _ _ _ (.pu _ (pu_I _)) (.cons _ _ _ _ (rnPtr (List.Mem.head _)) (.cons _ _ _ _ (.pu _ (pu_fn a3p a3q)) (.nil))))))
 refine go 1 r<|dn<|at_ret<|?_
 obtain rfl:=sj hy
 exact outO1 (g1:=I) (l:=[r1.2]) r (.inl r) r (pu_I _) r pu_I
def p_bZ (K:Nat) (a0:(List Ed)) (a1:Int) (a2:Int) (a3:(Ed→Ed→Option Int)):Option (Int × Int) :=
 (((bif (decide ((w64 (a2 - a1))≥8)) then (((bif (decide ((w64 (a2 - a1))≥50)) then ((p_u K a0 (w64 (a1+(w64 ((w64 (Int.tdiv (w64 (a2 - a1)) 4)) * 1)))) 0 a3).bind fun r1=>((p_u K a0 (w64 (a1+(w64 ((w64 (Int.tdiv (w64 (a2 - a1)) 4)) * 2)))) r1.2 a3).bind fun r2=>((p_u K a0 (w64 (a1+(w64 ((w64 (Int.tdiv (w64 (a2 - a1)) 4)) * 3)))) r2.2 a3).bind fun r3=>some (r1.1,r2.1,r3.1,r3.2)))) else some ((w64 (a1+(w64 ((w64 (Int.tdiv (w64 (a2 - a1)) 4)) * 1)))),(w64 (a1+(w64 ((w64 (Int.tdiv (w64 (a2 - a1)) 4)) * 2)))),(w64 (a1+(w64 ((w64 (Int.tdiv (w64 (a2 - a1)) 4)) * 3)))),0)):Option (Int × Int × Int × Int)).bind fun (v12_1,v13_1,v14_1,v1_1)=>((p_bJ K a0 v12_1 v13_1 v14_1 v1_1 a3).bind fun r4=>some (r4.1,r4.2))) else some ((w64 (a1+(w64 ((w64 (Int.tdiv (w64 (a2 - a1)) 4)) * 2)))),0)):Option (Int × Int)).bind fun (v13_2,v1_2)=>(bif (v1_2 == 0) then some (v13_2,1) else (bif (v1_2 == 12) then some (v13_2,2) else some (v13_2,0))))
theorem w_eF {K:Nat}{a0:(List Ed)}{a1:Int}{a2:Int}{a3:(Ed→Ed→Option Int)}{y:(Int × Int)}{a3f:FuncId}{a3s a3c:List AV} (a3h:∀ {x0:Ed}{x1:Ed}{r:Int},a3 x0 x1=some r→Does PP GV a3f [] (a3s++[(EdA x0),(EdA x1)]++a3c) [] [] (I r)) (a3k:callable PP a3f=true) (a3l:a3s.all flat=true∧a3c.all flat=true) (a3p:PuL a3s) (a3q:PuL a3c) (hy:p_bZ K a0 a1 a2 a3=some y):Does PP GV 105 [] [((SL 2 EdA) a0),(I a1),(I a2),.fn (.func a3f) a3s a3c] [] [] (.tup [(I y.1),(I y.2)]):=by
 unfold p_bZ at hy
 refine does_of at105 r (le_ok r)<|?_
 rintro ⟨_,base,w0,F⟩ rfl
 refine rg r<|rg r<|reg 1 r<|rg_alloc (s:=1) (gd_of r) zc3 (elems_one (by rfl)) (lt_ok r)<|dn<|reg 6 r<|go 2 r<|dv r r r r (by decide)<|go 3 r<|dn<|reg 6 r<|go 2 r<|dv r r r r (by decide)<|go 3 r<|dn<|reg 6 r<|go 2 r<|dv r r r r (by decide)<|go 3 r<|dn<|bkH hy fun o1 hy k1 hk1 hc1=>meetD [] [] r r (fun (p:Int × Int × Nat)=>match p with | (v13_2,v1_2,g1_1)=>([(11,.ptr 1 g1_1 0 0),(13,(I v13_2))],[(1,some (g1_1,.buf 1 [(I v1_2)]))],k1 (v13_2,v1_2)=some y)) ?_ ?_
 ·skip
  refine rg r<|cdH r hy (fun hy=>?_) fun hy=>?_
  ·refine bkH hy fun o2 hy k2 hk2 hc2=>meetD [0,3] [] r r (fun (p:Int × Int × Int × Int × Nat)=>match p with | (v12_1,v13_1,v14_1,v1_1,g1_2)=>([(11,.ptr 1 g1_2 0 0),(12,(I v12_1)),(13,(I v13_1)),(14,(I v14_1))],[(1,some (g1_2,.buf 1 [(I v1_1)]))],k2 (v12_1,v13_1,v14_1,v1_1)=some o1)) ?_ ?_
   ·skip
    refine rg r<|cdH r hy (fun hy=>?_) fun hy=>?_
    ·refine reg 5 r<|go 3 r<|bndH hy fun r1 qr1 hy=>clo1 (g1:=I) (l:=[0]) (l':=[r1.2]) (s:=1) (w_bG (a3h:=a3h) (a3k:=a3k) (a3l:=a3l) (a3p:=a3p) (a3q:=a3q) qr1) ca128 r (.one (pu_I _)) r r pu_I ?_ r ?_
     ·exact .cons _ _ _ _ (.pu _ ((pu_l 2 pu_Ed) _)) (.cons _ _ _ _ (.pu _ (pu_I _)) (.cons _ _ _ _ (rnPtr (List.Mem.head _)) (.cons _ _ _ _ (.pu _ (pu_fn a3p a3q)) (.nil))))
     refine go 1 r<|dn<|reg 5 r<|go 3 r<|bndH hy fun r2 qr2 hy=>clo1 (g1:=I) (l:=[r1.2]) (l':=[r2.2]) (s:=1) (w_bG (a3h:=a3h) (a3k:=a3k) (a3l:=a3l) (a3p:=a3p) (a3q:=a3q) qr2) ca128 r (.one (pu_I _)) r r pu_I ?_ r ?_
     ·exact .cons _ _ _ _ (.pu _ ((pu_l 2 pu_Ed) _)) (.cons _ _ _ _ (.pu _ (pu_I _)) (.cons _ _ _ _ (rnPtr (List.Mem.head _)) (.cons _ _ _ _ (.pu _ (pu_fn a3p a3q)) (.nil))))
     refine go 1 r<|dn<|reg1 5 r<|go 3 r<|bndH hy fun r3 qr3 hy=>clo1 (g1:=I) (l:=[r2.2]) (l':=[r3.2]) (s:=1) (w_bG (a3h:=a3h) (a3k:=a3k) (a3l:=a3l) (a3p:=a3p) (a3q:=a3q) qr3) ca128 r (.one (pu_I _)) r r pu_I ?_ r ?_
     ·exact .cons _ _ _ _ (.pu _ ((pu_l 2 pu_Ed) _)) (.cons _ _ _ _ (.pu _ (pu_I _)) (.cons _ _ _ _ (rnPtr (List.Mem.head _)) (.cons _ _ _ _ (.pu _ (pu_fn a3p a3q)) (.nil))))
     exact go 1 r<|dn<|metD (r1.1,r2.1,r3.1,r3.2,_) (lk r) (hk r) r r (sj2 hy hc2)
    ·exact at_skip<|metD ((w64 (a1+(w64 ((w64 (Int.tdiv (w64 (a2 - a1)) 4)) * 1)))),(w64 (a1+(w64 ((w64 (Int.tdiv (w64 (a2 - a1)) 4)) * 2)))),(w64 (a1+(w64 ((w64 (Int.tdiv (w64 (a2 - a1)) 4)) * 3)))),0,_) (lk r) (hk r) r r (sj2 hy hc2)
   ·rintro ⟨v12_1,v13_1,v14_1,v1_1,g1_2⟩ cl hy
    subst hk2
    refine nf r r<|reg1 7 r<|go 5 r<|bndH hy fun r4 qr4 hy=>clo1 (g1:=I) (l:=[v1_1]) (l':=[r4.2]) (s:=1) (w_dD (a5h:=a3h) (a5k:=a3k) (a5l:=a3l) (a5p:=a3p) (a5q:=a3q) qr4) ca129 r (.one (pu_I _)) r r pu_I ?_ r ?_
    ·exact .cons _ _ _ _ (.pu _ ((pu_l 2 pu_Ed) _)) (.cons _ _ _ _ (.pu _ (pu_I _)) (.cons _ _ _ _ (.pu _ (pu_I _)) (.cons _ _ _ _ (.pu _ (pu_I _)) (.cons _ _ _ _ (rnPtr (List.Mem.head _)) (.cons _ _ _ _ (.pu _ (pu_fn a3p a3q)) (.nil))))))
    exact go 1 r<|dn<|metD (r4.1,r4.2,_) (lk r) (hk r) r r (sj2 hy hc1)
  ·exact at_skip<|metD ((w64 (a1+(w64 ((w64 (Int.tdiv (w64 (a2 - a1)) 4)) * 2)))),0,_) (lk r) (hk r) r r (sj2 hy hc1)
 ·rintro ⟨v13_2,v1_2,g1_1⟩ cl hy
  subst hk1
  refine nf r r<|reg 1 r<|ld tk3 r r r r r r<|dn<|at_block<|rg r<|cdH r hy (fun hy=>?_) fun hy=>?_
  ·refine rg r<|at_ret<|?_
   obtain rfl:=sj hy
   exact mR r r (.t r (.t r .nil))
  ·refine rg r<|cdH r hy (fun hy=>?_) fun hy=>?_
   ·refine rg r<|at_ret<|?_
    obtain rfl:=sj hy
    exact mR r r (.t r (.t r .nil))
   ·refine rg r<|at_ret<|?_
    obtain rfl:=sj hy
    exact mR r r (.t r (.t r .nil))
def p_bb (K:Nat) (a2:Int) (a3:Int) (a4:(Ed→Ed→Option Int)):Nat→Int→(List Ed)→Option (List Ed)
 | 0,_,_=>none
 | n+1,v10_2,l0_2=>(bif (decide ((w64 ((w64 (2 * v10_2))+1))≥a2)) then some l0_2 else (((bif (decide ((w64 ((w64 ((w64 (2 * v10_2))+1))+1)) < a2)) then (bdP l0_2.length (w64 (a3+(w64 ((w64 (2 * v10_2))+1)))) fun i1=>gtP l0_2 i1 fun v2=>(bdP l0_2.length (w64 ((w64 (a3+(w64 ((w64 (2 * v10_2))+1))))+1)) fun i3=>gtP l0_2 i3 fun v4=>((a4 v2 v4).bind fun r5=>(bif (decide (r5 < 0)) then some (w64 ((w64 ((w64 (2 * v10_2))+1))+1)) else some (w64 ((w64 (2 * v10_2))+1)))))) else some (w64 ((w64 (2 * v10_2))+1))):Option Int).bind fun v11_1=>(bdP l0_2.length (w64 (a3+v10_2)) fun i6=>gtP l0_2 i6 fun v7=>(bdP l0_2.length (w64 (a3+v11_1)) fun i8=>gtP l0_2 i8 fun v9=>((a4 v7 v9).bind fun r10=>(bif (!(decide (r10 < 0))) then some l0_2 else (bdP l0_2.length (w64 (a3+v11_1)) fun i11=>gtP l0_2 i11 fun v12=>(bdP l0_2.length (w64 (a3+v10_2)) fun i13=>gtP l0_2 i13 fun v14=>(bdP l0_2.length (w64 (a3+v10_2)) fun i15=>gtP l0_2 i15 fun v16=>(bdP l0_2.length (w64 (a3+v11_1)) fun i17=>gtP (l0_2.set i15 v12) i17 fun v18=>p_bb K a2 a3 a4 n v11_1 ((l0_2.set i15 v12).set i17 v14)))))))))))
def p_bq (K:Nat) (a0:(List Ed)) (a1:Int) (a2:Int) (a3:Int) (a4:(Ed→Ed→Option Int)):Option (List Ed) :=
 p_bb K a2 a3 a4 K a1 a0
theorem w_di {K:Nat}{a0:(List Ed)}{a1:Int}{a2:Int}{a3:Int}{a4:(Ed→Ed→Option Int)}{y:(List Ed)}{a4f:FuncId}{a4s a4c:List AV} (a4h:∀ {x0:Ed}{x1:Ed}{r:Int},a4 x0 x1=some r→Does PP GV a4f [] (a4s++[(EdA x0),(EdA x1)]++a4c) [] [] (I r)) (a4k:callable PP a4f=true) (a4l:a4s.all flat=true∧a4c.all flat=true) (a4p:PuL a4s) (a4q:PuL a4c) (hy:p_bq K a0 a1 a2 a3 a4=some y):Does PP GV 125 [.buf 2 (a0.map EdA)] [.own 0 0 2 0 a0.length false,(I a1),(I a2),(I a3),.fn (.func a4f) a4s a4c] [0] [.buf 2 (y.map EdA)] (.tup []):=by
 unfold p_bq at hy
 refine does_of at125 r (le_ok r)<|?_
 rintro ⟨_,base,w0,F⟩ rfl
 refine rg r<|at_block<|loopD [2,3,4] [] r r (fun (p:Nat × Int × (List Ed))=>match p with | (n1,v10_2,l0_2)=>([(0,.own 0 0 2 0 (l0_2).length false),(10,(I v10_2))],[(0,some (0,.buf 2 (l0_2.map EdA)))],p_bb K a2 a3 a4 n1 v10_2 l0_2=some y)) (K,a1,a0) (lk r) (hk r) hy<|?_
 rintro ⟨n1,v10_2,l0_2⟩ cl hy
 obtain _ | n1:=n1;· cases hy
 refine nf r r<|?_
 replace hy:_=some _:=hy
 rw [p_bb] at hy
 refine at_block<|rg r<|at_seq<|rg r<|cdH r hy (fun hy=>?_) fun hy=>?_
 ·refine at_exit<|at_te<|at_outBlock (by decide)<|at_te<|at_inBlock<|?_
  obtain rfl:=sj hy
  exact outO0 (g1:=EdA) r (.inr r) r pu_Ed
 ·refine at_skip<|bkH hy fun o2 hy k2 hk2 hc2=>meetD [0,2,3,4,10] [0] r r (fun (p:Int)=>match p with | v11_1=>([(11,(I v11_1))],[],k2 v11_1=some y)) ?_ ?_
  ·skip
   refine regd mixed 22 r<|go 5 r<|casH 23 r hy (fun hy=>?_) fun hy=>?_
   ·refine go 5 r<|bdH hy fun i1 qi1 bi1 hy=>gtH hy fun v2 xv2 hy=>ixP' sl41 qi1 bi1 r r r r<|ldP (f:=EdA) tk47 xv2 r r r r r<|go 5 r<|bdH hy fun i3 qi3 bi3 hy=>gtH hy fun v4 xv4 hy=>ixP' sl41 qi3 bi3 r r r r<|ldP (f:=EdA) tk47 xv4 r r r r r<|bndH hy fun r5 qr5 hy=>clv (a4h qr5) a4k r r r r a4l (puL3 a4p (.cons (pu_Ed _) (.cons (pu_Ed _) (.nil))) a4q) (.one (pu_I _)) r<|go 2 r<|dn ⟨by kernel_rfl,?_⟩
    refine cdH r hy (fun hy=>?_) fun hy=>?_
    ·exact rg1 r<|metD (w64 ((w64 ((w64 (2 * v10_2))+1))+1)) (lk r) .nil r r (sj2 hy hc2)
    ·exact at_skip<|metD (w64 ((w64 (2 * v10_2))+1)) (lk r) .nil r r (sj2 hy hc2)
   ·refine go 17 r<|dn ⟨by kernel_rfl,?_⟩
    exact cdf r<|at_skip<|metD (w64 ((w64 (2 * v10_2))+1)) (lk r) .nil r r (sj2 hy hc2)
  ·rintro v11_1 cl hy
   subst hk2
   refine nf r r<|at_seq<|regd mixed 16 r<|go 5 r<|bdH hy fun i6 qi6 bi6 hy=>gtH hy fun v7 xv7 hy=>ixP' sl41 qi6 bi6 r r r r<|ldP (f:=EdA) tk47 xv7 r r r r r<|go 4 r<|bdH hy fun i8 qi8 bi8 hy=>gtH hy fun v9 xv9 hy=>ixP' sl41 qi8 bi8 r r r r<|ldP (f:=EdA) tk47 xv9 r r r r r<|bndH hy fun r10 qr10 hy=>clv (a4h qr10) a4k r r r r a4l (puL3 a4p (.cons (pu_Ed _) (.cons (pu_Ed _) (.nil))) a4q) (.one (pu_I _)) r<|go 2 r<|dn ⟨by kernel_rfl,?_⟩
   refine cdH r hy (fun hy=>?_) fun hy=>?_
   ·refine at_ret<|?_
    obtain rfl:=sj hy
    exact outO0 (g1:=EdA) r (.inl r) r pu_Ed
   ·refine at_skip<|regd mixed 24 r<|go 12 r<|bdH hy fun i11 qi11 bi11 hy=>gtH hy fun v12 xv12 hy=>ixP' sl41 qi11 bi11 r r r r<|ldP (f:=EdA) tk47 xv12 r r r r r<|go 4 r<|bdH hy fun i13 qi13 bi13 hy=>gtH hy fun v14 xv14 hy=>ixP' sl41 qi13 bi13 r r r r<|ldP (f:=EdA) tk47 xv14 r r r r r<|bdH hy fun i15 qi15 bi15 hy=>gtH hy fun v16 xv16 hy=>ixP' sl41 qi15 bi15 r r r r<|stP (f:=EdA) (v12) tk47 xv16 r r r r r r<|bdH hy fun i17 qi17 bi17 hy=>gtH hy fun v18 xv18 hy=>ixP' sl41 qi17 bi17 r r r r<|stP (f:=EdA) (v14) tk47 xv18 r r r r r r<|dn ⟨by kernel_rfl,?_⟩
    refine rg1 r<|at_bn<|againD (n1,v11_1,((l0_2.set i15 v12).set i17 v14)) (.k r (by simp) (.j r .nil)) (hk r) r r hy r
def p_bc (K:Nat) (a2:Int) (a1:Int) (a3:(Ed→Ed→Option Int)):Nat→Int→(List Ed)→Option (List Ed)
 | 0,_,_=>none
 | n+1,v11_1,l0_1=>(bif (decide (v11_1≥0)) then ((p_bq K l0_1 v11_1 (w64 (a2 - a1)) a1 a3).bind fun r1=>lenP l0_1 r1 (p_bc K a2 a1 a3 n (w64 (v11_1 - 1)) r1)) else some l0_1)
def p_bd (K:Nat) (a1:Int) (a3:(Ed→Ed→Option Int)):Nat→Int→(List Ed)→Option (List Ed)
 | 0,_,_=>none
 | n+1,v12_3,l0_3=>(bif (decide (v12_3≥0)) then (bdP l0_3.length (w64 (a1+v12_3)) fun i2=>gtP l0_3 i2 fun v3=>(bdP l0_3.length a1 fun i4=>gtP l0_3 i4 fun v5=>(bdP l0_3.length a1 fun i6=>gtP l0_3 i6 fun v7=>(bdP l0_3.length (w64 (a1+v12_3)) fun i8=>gtP (l0_3.set i6 v3) i8 fun v9=>((p_bq K ((l0_3.set i6 v3).set i8 v5) 0 v12_3 a1 a3).bind fun r10=>lenP ((l0_3.set i6 v3).set i8 v5) r10 (p_bd K a1 a3 n (w64 (v12_3 - 1)) r10)))))) else some l0_3)
def p_cl (K:Nat) (a0:(List Ed)) (a1:Int) (a2:Int) (a3:(Ed→Ed→Option Int)):Option (List Ed) :=
 ((p_bc K a2 a1 a3 K (w64 (Int.tdiv (w64 ((w64 (a2 - a1)) - 1)) 2)) a0:Option (List Ed)).bind fun l0_2=>p_bd K a1 a3 K (w64 ((w64 (a2 - a1)) - 1)) l0_2)
theorem w_eY {K:Nat}{a0:(List Ed)}{a1:Int}{a2:Int}{a3:(Ed→Ed→Option Int)}{y:(List Ed)}{a3f:FuncId}{a3s a3c:List AV} (a3h:∀ {x0:Ed}{x1:Ed}{r:Int},a3 x0 x1=some r→Does PP GV a3f [] (a3s++[(EdA x0),(EdA x1)]++a3c) [] [] (I r)) (a3k:callable PP a3f=true) (a3l:a3s.all flat=true∧a3c.all flat=true) (a3p:PuL a3s) (a3q:PuL a3c) (hy:p_cl K a0 a1 a2 a3=some y):Does PP GV 103 [.buf 2 (a0.map EdA)] [.own 0 0 2 0 a0.length false,(I a1),(I a2),.fn (.func a3f) a3s a3c] [0] [.buf 2 (y.map EdA)] (.tup []):=by
 unfold p_cl at hy
 refine does_of at103 r (le_ok r)<|?_
 rintro ⟨_,base,w0,F⟩ rfl
 refine rg r<|rg r<|rg r<|bkH hy fun o1 hy k1 hk1 hc1=>meetD [3,8,9,10] [] r r (fun (p:(List Ed))=>match p with | l0_2=>([(0,.own 0 0 2 0 (l0_2).length false)],[(0,some (0,.buf 2 (l0_2.map EdA)))],k1 l0_2=some y)) ?_ ?_
 ·skip
  refine reg 4 r<|go 2 r<|dv r r r r (by decide)<|go 1 r<|dn<|at_block<|loopD [3,8,9,10] [] r r (fun (p:Nat × Int × (List Ed))=>match p with | (n2,v11_1,l0_1)=>([(0,.own 0 0 2 0 (l0_1).length false),(11,(I v11_1))],[(0,some (0,.buf 2 (l0_1.map EdA)))],p_bc K a2 a1 a3 n2 v11_1 l0_1=some o1)) (K,(w64 (Int.tdiv (w64 ((w64 (a2 - a1)) - 1)) 2)),a0) (lk r) (hk r) hy<|?_
  rintro ⟨n2,v11_1,l0_1⟩ cl hy
  obtain _ | n2:=n2;· cases hy
  refine nf r r<|?_
  replace hy:_=some _:=hy
  rw [p_bc] at hy
  refine at_seq<|rg r<|cdH r hy (fun hy=>?_) fun hy=>?_
  ·refine at_skip<|at_seq<|at_block<|reg1 6 r<|go 5 r<|bndH hy fun r1 qr1 hy=>?_
   obtain ⟨tr1,hy⟩:=lenI hy
   refine clo1 (s:=0) (w_di (a4h:=a3h) (a4k:=a3k) (a4l:=a3l) (a4p:=a3p) (a4q:=a3q) qr1) ca125 r (.tup (.nil)) r r pu_Ed ?_ r ?_
   ·exact .cons _ _ _ _ (rnOwn (List.Mem.head _) (by first | rfl | simp)) (.cons _ _ _ _ (.pu _ (pu_I _)) (.cons _ _ _ _ (.pu _ (pu_I _)) (.cons _ _ _ _ (.pu _ (pu_I _)) (.cons _ _ _ _ (.pu _ (pu_fn a3p a3q)) (.nil)))))
   refine teq 0 (y:=.own 0 0 2 0 r1.length false) r (by first | (rw [tr1];done) | simp [tr1])<|dn<|at_bn<|rg1 r<|againD (n2,(w64 (v11_1 - 1)),r1) (lk r) (hk r) r r hy r
  ·exact at_exit<|at_te<|at_te<|at_inBlock<|metD l0_1 (lk r) (hk r) r r (sj2 hy hc1)
 ·rintro l0_2 cl hy
  subst hk1
  refine nf r r<|rg r<|at_block<|loopD [3,8,9] [] r r (fun (p:Nat × Int × (List Ed))=>match p with | (n3,v12_3,l0_3)=>([(0,.own 0 0 2 0 (l0_3).length false),(12,(I v12_3))],[(0,some (0,.buf 2 (l0_3.map EdA)))],p_bd K a1 a3 n3 v12_3 l0_3=some y)) (K,(w64 ((w64 (a2 - a1)) - 1)),l0_2) (lk r) (hk r) hy<|?_
  rintro ⟨n3,v12_3,l0_3⟩ cl hy
  obtain _ | n3:=n3;· cases hy
  refine nf r r<|?_
  replace hy:_=some _:=hy
  rw [p_bd] at hy
  refine at_seq<|rg r<|cdH r hy (fun hy=>?_) fun hy=>?_
  ·refine at_skip<|at_seq<|at_block<|regd mixed 20 r<|go 10 r<|bdH hy fun i2 qi2 bi2 hy=>gtH hy fun v3 xv3 hy=>ixP' sl41 qi2 bi2 r r r r<|ldP (f:=EdA) tk47 xv3 r r r r r<|go 2 r<|bdH hy fun i4 qi4 bi4 hy=>gtH hy fun v5 xv5 hy=>ixP' sl41 qi4 bi4 r r r r<|ldP (f:=EdA) tk47 xv5 r r r r r<|bdH hy fun i6 qi6 bi6 hy=>gtH hy fun v7 xv7 hy=>ixP' sl41 qi6 bi6 r r r r<|stP (f:=EdA) (v3) tk47 xv7 r r r r r r<|bdH hy fun i8 qi8 bi8 hy=>gtH hy fun v9 xv9 hy=>ixP' sl41 qi8 bi8 r r r r<|stP (f:=EdA) (v5) tk47 xv9 r r r r r r<|dn ⟨by kernel_rfl,?_⟩
   refine reg1 6 r<|go 5 r<|bndH hy fun r10 qr10 hy=>?_
   obtain ⟨tr10,hy⟩:=lenI hy
   refine clo1 (s:=0) (w_di (a4h:=a3h) (a4k:=a3k) (a4l:=a3l) (a4p:=a3p) (a4q:=a3q) qr10) ca125 r (.tup (.nil)) r r pu_Ed ?_ r ?_
   ·exact .cons _ _ _ _ (rnOwn (List.Mem.head _) (by first | rfl | simp)) (.cons _ _ _ _ (.pu _ (pu_I _)) (.cons _ _ _ _ (.pu _ (pu_I _)) (.cons _ _ _ _ (.pu _ (pu_I _)) (.cons _ _ _ _ (.pu _ (pu_fn a3p a3q)) (.nil)))))
   refine teq 0 (y:=.own 0 0 2 0 r10.length false) r (by first | (rw [tr10];done) | simp [tr10])<|dn<|at_bn<|rg1 r<|againD (n3,(w64 (v12_3 - 1)),r10) (lk r) (hk r) r r hy r
  ·refine at_exit<|at_te<|at_te<|at_inBlock<|?_
   obtain rfl:=sj hy
   exact outO0 (g1:=EdA) r (.inr r) r pu_Ed
def p_L (K:Nat) (a1:Int) (a3:(Ed→Ed→Option Int)):Nat→Int→(List Ed)→Option (List Ed)
 | 0,_,_=>none
 | n+1,v9_1,l0_1=>(bif (decide (v9_1 > a1)) then (bdP l0_1.length v9_1 fun i1=>gtP l0_1 i1 fun v2=>(bdP l0_1.length (w64 (v9_1 - 1)) fun i3=>gtP l0_1 i3 fun v4=>((a3 v2 v4).bind fun r5=>(bif (decide (r5 < 0)) then (bdP l0_1.length (w64 (v9_1 - 1)) fun i6=>gtP l0_1 i6 fun v7=>(bdP l0_1.length v9_1 fun i8=>gtP l0_1 i8 fun v9=>(bdP l0_1.length v9_1 fun i10=>gtP l0_1 i10 fun v11=>(bdP l0_1.length (w64 (v9_1 - 1)) fun i12=>gtP (l0_1.set i10 v7) i12 fun v13=>p_L K a1 a3 n (w64 (v9_1 - 1)) ((l0_1.set i10 v7).set i12 v9))))) else some l0_1)))) else some l0_1)
def p_M (K:Nat) (a2:Int) (a1:Int) (a3:(Ed→Ed→Option Int)):Nat→Int→(List Ed)→Option (List Ed)
 | 0,_,_=>none
 | n+1,v8_3,l0_3=>(bif (decide (v8_3 < a2)) then ((p_L K a1 a3 K v8_3 l0_3:Option (List Ed)).bind fun l0_2=>p_M K a2 a1 a3 n (w64 (v8_3+1)) l0_2) else some l0_3)
def p_bP (K:Nat) (a0:(List Ed)) (a1:Int) (a2:Int) (a3:(Ed→Ed→Option Int)):Option (List Ed) :=
 p_M K a2 a1 a3 K (w64 (a1+1)) a0
theorem w_ey {K:Nat}{a0:(List Ed)}{a1:Int}{a2:Int}{a3:(Ed→Ed→Option Int)}{y:(List Ed)}{a3f:FuncId}{a3s a3c:List AV} (a3h:∀ {x0:Ed}{x1:Ed}{r:Int},a3 x0 x1=some r→Does PP GV a3f [] (a3s++[(EdA x0),(EdA x1)]++a3c) [] [] (I r)) (a3k:callable PP a3f=true) (a3l:a3s.all flat=true∧a3c.all flat=true) (a3p:PuL a3s) (a3q:PuL a3c) (hy:p_bP K a0 a1 a2 a3=some y):Does PP GV 102 [.buf 2 (a0.map EdA)] [.own 0 0 2 0 a0.length false,(I a1),(I a2),.fn (.func a3f) a3s a3c] [0] [.buf 2 (y.map EdA)] (.tup []):=by
 unfold p_bP at hy
 refine does_of at102 r (le_ok r)<|?_
 rintro ⟨_,base,w0,F⟩ rfl
 refine rg r<|at_block<|loopD [1,2,3] [] r r (fun (p:Nat × Int × (List Ed))=>match p with | (n1,v8_3,l0_3)=>([(0,.own 0 0 2 0 (l0_3).length false),(8,(I v8_3))],[(0,some (0,.buf 2 (l0_3.map EdA)))],p_M K a2 a1 a3 n1 v8_3 l0_3=some y)) (K,(w64 (a1+1)),a0) (lk r) (hk r) hy<|?_
 rintro ⟨n1,v8_3,l0_3⟩ cl hy
 obtain _ | n1:=n1;· cases hy
 refine nf r r<|?_
 replace hy:_=some _:=hy
 rw [p_M] at hy
 refine at_seq<|rg r<|cdH r hy (fun hy=>?_) fun hy=>?_
 ·refine at_skip<|bkH hy fun o2 hy k2 hk2 hc2=>meetD [1,2,3,8] [] r r (fun (p:(List Ed))=>match p with | l0_2=>([(0,.own 0 0 2 0 (l0_2).length false)],[(0,some (0,.buf 2 (l0_2.map EdA)))],k2 l0_2=some y)) ?_ ?_
  ·skip
   refine at_block<|rg r<|at_block<|loopD [1,2,3,8] [] r r (fun (p:Nat × Int × (List Ed))=>match p with | (n3,v9_1,l0_1)=>([(0,.own 0 0 2 0 (l0_1).length false),(9,(I v9_1))],[(0,some (0,.buf 2 (l0_1.map EdA)))],p_L K a1 a3 n3 v9_1 l0_1=some o2)) (K,v8_3,l0_3) (lk r) (hk r) hy<|?_
   rintro ⟨n3,v9_1,l0_1⟩ cl hy
   obtain _ | n3:=n3;· cases hy
   refine nf r r<|?_
   replace hy:_=some _:=hy
   rw [p_L] at hy
   refine at_seq<|regd mixed 17 r<|go 4 r<|casH 21 r hy (fun hy=>?_) fun hy=>?_
   ·refine go 3 r<|bdH hy fun i1 qi1 bi1 hy=>gtH hy fun v2 xv2 hy=>ixP' sl41 qi1 bi1 r r r r<|ldP (f:=EdA) tk47 xv2 r r r r r<|go 3 r<|bdH hy fun i3 qi3 bi3 hy=>gtH hy fun v4 xv4 hy=>ixP' sl41 qi3 bi3 r r r r<|ldP (f:=EdA) tk47 xv4 r r r r r<|bndH hy fun r5 qr5 hy=>clv (a3h qr5) a3k r r r r a3l (puL3 a3p (.cons (pu_Ed _) (.cons (pu_Ed _) (.nil))) a3q) (.one (pu_I _)) r<|go 2 r<|dn ⟨by kernel_rfl,?_⟩
    refine cdH r hy (fun hy=>?_) fun hy=>?_
    ·refine at_skip<|at_seq<|at_block<|regd1 mixed 18 r<|go 8 r<|bdH hy fun i6 qi6 bi6 hy=>gtH hy fun v7 xv7 hy=>ixP' sl41 qi6 bi6 r r r r<|ldP (f:=EdA) tk47 xv7 r r r r r<|go 2 r<|bdH hy fun i8 qi8 bi8 hy=>gtH hy fun v9 xv9 hy=>ixP' sl41 qi8 bi8 r r r r<|ldP (f:=EdA) tk47 xv9 r r r r r<|bdH hy fun i10 qi10 bi10 hy=>gtH hy fun v11 xv11 hy=>ixP' sl41 qi10 bi10 r r r r<|stP (f:=EdA) (v7) tk47 xv11 r r r r r r<|bdH hy fun i12 qi12 bi12 hy=>gtH hy fun v13 xv13 hy=>ixP' sl41 qi12 bi12 r r r r<|stP (f:=EdA) (v9) tk47 xv13 r r r r r r<|dn ⟨by kernel_rfl,?_⟩
     refine at_bn<|rg1 r<|againD (n3,(w64 (v9_1 - 1)),((l0_1.set i10 v7).set i12 v9)) (.k r (by simp) (.j r .nil)) (hk r) r r hy r
    ·exact at_exit<|at_te<|at_te<|at_inBlock<|at_bn<|metD l0_1 (lk r) (hk r) r r (sj2 hy hc2)
   ·refine go 13 r<|dn ⟨by kernel_rfl,?_⟩
    exact cdf r<|at_exit<|at_te<|at_te<|at_inBlock<|at_bn<|metD l0_1 (lk r) (hk r) r r (sj2 hy hc2)
  ·rintro l0_2 cl hy
   subst hk2
   refine nf r r<|rg1 r<|againD (n1,(w64 (v8_3+1)),l0_2) (lk r) (hk r) r r hy r
 ·refine at_exit<|at_te<|at_te<|at_inBlock<|?_
  obtain rfl:=sj hy
  exact outO0 (g1:=EdA) r (.inr r) r pu_Ed
end Go.Ar
