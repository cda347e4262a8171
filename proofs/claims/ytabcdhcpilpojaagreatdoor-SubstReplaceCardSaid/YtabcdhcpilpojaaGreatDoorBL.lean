/- From an answer of the plain run to a call of the machine. -/
import Derived.Test.YtabcdhcpilpojaaGreatDoorVB
import Derived.Test.YtabcdhcpilpojaaGreatDoorPC
import Derived.Test.YtabcdhcpilpojaaGreatDoorPD
import Derived.WalkKit
import Derived.ProofKit
import Derived.OpenShut
set_option linter.unusedSimpArgs false
set_option linter.unusedVariables false
section
namespace Go.Pure
open Go Go.RowKit
open Go.Virt (Ex Ctx Ty TK VH VO Blk HR VR VRs RowR Sound cellB flat Zbl)
structure ARow where
 b:Nat
 d:Nat
 cells:List Value
 e:Nat
 g:Nat
structure ARow.In (w:World)(r:ARow):Prop where
 lt:r.b < w.heap.size
 cell:∀v∈r.cells,cellB v=true
 flat:∀v∈r.cells,Virt.flat 4 v=true
 real:∃c el fr,w.heap[r.b]?=some (.cells c el fr)/\∀j v,r.cells[j]?=some v->c[r.d+j]?=some v
def Wt (rows:List ARow):VH:={next:=rows.length,get:=fun i=>(rows[i]?).map fun r=>.row r.cells r.e false,wr:=0}
def Zr0 (rows:List ARow):Vf:=fun i=>(rows[i]?).map fun r=>{cells:=r.cells,e:=r.e,own:=false,tag:=some r.g}
def s0 (rows:List ARow):Nat->Blk:=fun i=>match rows[i]? with
 |some r=>{b:=r.b,d:=r.d,N:=0,e:=r.e,own:=false,live:=true}
 |none=>Zbl
def K0:Loc:={base:=0,lo:=0,ok:=[]}
def H0:PH:={next:=0,get:=fun _=>none}
theorem hr0 {rows:List ARow}{w:World}(h:∀r∈rows,r.In w):HR 0 (s0 rows) (Wt rows) w w.heap.size where
 lt:=fun i o ho=>by
  simp only[Wt,Option.map_eq_some_iff]at ho;obtain⟨r,hr,_⟩:=ho;exact (List.getElem?_eq_some_iff.1 hr).1
 glob:=⟨Nat.zero_le _,fun g hg=>by omega⟩
 base_:=Nat.le_refl _
 row:=fun i cs e own ho=>by
  simp only[Wt,Option.map_eq_some_iff]at ho;obtain⟨r,hr,ho⟩:=ho;cases ho;have Uv:=h r (List.mem_of_getElem? hr);have e1:s0 rows i={b:=r.b,d:=r.d,N:=0,e:=r.e,own:=false,live:=true}:=by simp only[s0,hr]
  obtain⟨c,el,fr,h1,h2⟩:=Uv.real;refine⟨by rw[e1],Uv.cell,c,el,fr,by rw[e1];exact h1,fun j v hj=>⟨v,by rw[e1];exact h2 j v hj,VR.of_flat 4 v (Uv.flat v (List.mem_of_getElem? hj))⟩,fun hh=>(by cases hh),fun _=>(by rw[e1];exact Uv.lt)⟩
 map:=fun i es ho=>by
  simp only[Wt,Option.map_eq_some_iff]at ho;obtain⟨r,_,ho⟩:=ho;cases ho
 loop:=fun i sl ps as bd ho=>by
  simp only[Wt,Option.map_eq_some_iff]at ho;obtain⟨r,_,ho⟩:=ho;cases ho
 inj:=fun i j oi oj hi hj hm _ _=>by
  simp only[Wt,Option.map_eq_some_iff]at hi;obtain⟨r,_,hi⟩:=hi;subst hi;cases hm
inductive ArgR (C:Ctx)(rows:List ARow):PV->Value->Value->Prop
 |flat {p:PV} {v:Value} (h:Zz 0 v=some p):ArgR C rows p v v
 |row {i:Nat} {r:ARow} {xs:List PV} {ty:Ty} {W1:Nat} (hr:rows[i]?=some r) (ht:C.T r.g=some ty) (he:r.e=ty.size) (hc:Virt.readN r.cells 0 (xs.length*ty.size)=some r.cells)
   (hx:RDs C (Zr0 rows) (xs.flatMap Zd) r.cells) (hl:∀x∈xs,(Zd x).length=ty.size) (Z8z:xs.length<=W1):
   ArgR C rows (.lst r.g xs) (.slice (some ⟨i,0,none⟩) xs.length xs.length) (.slice (some ⟨r.b,r.d,none⟩) xs.length W1)
inductive ArgsR (C:Ctx)(rows:List ARow):List PV->List Value->List Value->Prop
 |nil:ArgsR C rows [] [] []
 |cons {p:PV} {u v:Value} {ps:List PV} {us vs:List Value} (h:ArgR C rows p u v) (t:ArgsR C rows ps us vs):ArgsR C rows (p::ps) (u::us) (v::vs)
theorem ArgR.r {C:Ctx}{rows:List ARow}{p:PV}{u v:Value}(h:ArgR C rows p u v)(ρ:Nat->Nat)(vf:Nat->Option Nat):R C ρ vf (Zr0 rows) p u:=by
 cases h with
 |flat h=>exact .d (R6 0 _ h)
 | @row i r xs ty W1 hr ht he hc hx hl Z8z=>exact .d (.lst r.g xs i 0 xs.length {cells:=r.cells,e:=r.e,own:=false,tag:=some r.g} r.cells ty (by simp only[Zr0,hr,Option.map_some]) he (.inr rfl) ht hc hx hl)
theorem ArgsR.rs {C:Ctx}{rows:List ARow}{ps:List PV}{us vs:List Value}(h:ArgsR C rows ps us vs)(ρ:Nat->Nat)(vf:Nat->Option Nat):Rs C ρ vf (Zr0 rows) ps us:=by
 induction h with
 |nil=>exact .nil
 |cons h _ ih=>exact .cons (h.r ρ vf) ih
theorem ArgR.vr {C:Ctx}{rows:List ARow}{p:PV}{u v:Value}(h:ArgR C rows p u v):VR (s0 rows) rows.length u v:=by
 cases h with
 |flat h=>exact VR.of_flat 0 _ (Zd4 0 _ h)
 | @row i r xs ty W1 hr ht he hc hx hl Z8z=>
   have e1:s0 rows i={b:=r.b,d:=r.d,N:=0,e:=r.e,own:=false,live:=true}:=by simp only[s0,hr]
   have:=VR.slice (Y:=s0 rows) (n:=rows.length) i 0 xs.length xs.length W1 ⟨(List.getElem?_eq_some_iff.1 hr).1,by rw[e1]⟩ Z8z (fun hh=>by rw[e1]at hh;cases hh);rw[e1]at this;exact this
theorem ArgsR.vrs {C:Ctx}{rows:List ARow}{ps:List PV}{us vs:List Value}(h:ArgsR C rows ps us vs):VRs (s0 rows) rows.length us vs:=by
 induction h with
 |nil=>exact .nil
 |cons h _ ih=>exact .cons h.vr ih
theorem hp0 (C:Ctx)(rows:List ARow):HP C id (Zr0 rows) (Wt rows) H0 where
 lt:=fun i x h=>by cases h
 inj:=fun i j x y h=>by cases h
 vlt:=fun i o ho=>by
  simp only[Wt,Option.map_eq_some_iff]at ho;obtain⟨r,hr,_⟩:=ho;exact (List.getElem?_eq_some_iff.1 hr).1
 sig:=fun Zy s hs=>by
  simp only[Zr0,Option.map_eq_some_iff]at hs;obtain⟨r,hr,rfl⟩:=hs;simp only[Wt,hr,Option.map_some]
 obj:=fun i Zc o h=>by cases h
 wr:=Nat.zero_le _
theorem Zwp {C:Ctx}{P:Program}(hS:Sound C P)(hP:COkP C)(hG:C.G=0){f:Nat}{ps:List PV}{b:Bool}(hA:Xq C f ps (.bool b)){rows:List ARow}{us vs:List Value}{w:World}(ha:ArgsR C rows ps us vs)(hr:∀r∈rows,r.In w):
  Virt.Enters P f/\Calls P f vs.toArray w fun e w'=>e=.returned (.bool b)/\Below w.heap.size w w':=by
 obtain⟨n,hn⟩:=Q7.1 (hA K0 H0);obtain⟨u,vh',YB,Z',he,hu,_⟩:=Z4z hP n K0 0 f ps H0 _ hn id (Zr0 rows) (Wt rows) us (hp0 C rows) ⟨Nat.le_refl _,Nat.le_refl _⟩ (ha.rs id _)
 have hub:u=.bool b:=by
  cases hu with
  |d h=>cases h;rfl
 subst hub;obtain⟨hen,hgo⟩:=Virt.call_sound hS n f us (Wt rows) _ vh' he;refine⟨hen,fun cs=>?_⟩;have hH:HR C.G (s0 rows) (Wt rows) w w.heap.size:=by rw[hG];exact hr0 hr
 obtain⟨YC,w',v',fr,s,Qi,hl,hh⟩:=hgo (s0 rows) w w.heap.size vs.toArray hH (show VRs (s0 rows) rows.length us vs.toArray.toList by simpa using ha.vrs) cs;have hvv:v'=.bool b:=hh.vr.eq_of_flat 4 rfl;subst hvv
 exact⟨.returned (.bool b),w',fr,⟨rfl,hh.tr.os,hh.tr.tape,hh.tr.output,hh.tr.size,fun b hb=>hh.tr.block b hb fun i o hi hm=>by
  simp only[Wt,Option.map_eq_some_iff]at hi;obtain⟨r,_,hi⟩:=hi;subst hi;cases hm⟩,s,Qi,hl⟩
end Go.Pure
end
section
namespace Go.Virt
open Go Go.RowKit Go.ChangeShapes Go.WideShapes Go.ChangeAt
section
variable {H:Type}{enc:TypeId×Value->H}{P:Program}
theorem Zoy {f:Func}{s:ChangeSpec}{apart fresh handsOn again:Bool}{W W':World}{args:Array Value}{v:Value}{ds gs:List (DataW H)}{before pa pv:List MemPlace}
  (hW:DataW.Whole enc P f.params.toList s.vars apart W args.toList ds gs before)
  (Td:∀(b:Nat) (sp:Nat->Bool) (hd:Bool),DataW.TrodAll enc P W' b sp hd f.resultTypes.toList (v.resultList f.resultTypes.size) (s.fn H (ds++gs)).results [])
  (Xt:∀sp:Nat->Bool,(∀p∈before,sp p.block=true)->DataW.TrodAll enc P W' 0 sp true f.params.toList args.toList (s.fn H (ds++gs)).args pa)
  (Zagu:∀sp:Nat->Bool,(∀p∈before,sp p.block=true)->DataW.TrodVars enc P W' sp s.vars (s.fn H (ds++gs)).vars pv)
  (Te:before=pa++pv) (hb:Below W.heap.size W W')
  (hok:∀(j:Nat) (t:TypeId) (r:Value),f.resultTypes[j]?=some t->(v.resultList f.resultTypes.size)[j]?=some r->Value.okWide P W' .any 0 t r):
  s.post enc P f apart fresh handsOn again W args v W':=by
 have Xa:∀p∈before,(fun b=>decide (b < W.heap.size)) p.block=true:=fun p hp=>by simpa using hW.lt p hp
 have hlt:=hW.lt;refine⟨ds,gs,before,[],pa,pv,hW,Td _ _ _,Xt _ Xa,Zagu _ Xa,World.keptBut_mono (fun p hp=>⟨hp,?_⟩) (hb.frame (·∈before)),fun _=>?_⟩
 .rw [Te,List.mem_append]at hp;exact Or.inr hp
 .obtain ⟨_,_,_,_,_,hz,hn⟩:=hW;refine⟨hok,_,_,([]++pa)++pv,⟨[]++pa,pv,trodAll_append (Xt _ (fun _ _=>rfl)) (Td _ _ _),Zagu _ (fun _ _=>rfl),rfl,?_,?_⟩,?_⟩
  .intro b off hp;have hm:MemPlace.cell b off∈before:=by rw[Te];simpa using hp
   have:=hb.frozen (p:=⟨b,off,none⟩) (hlt _ hm);rw[this];exact hz b off hm
  .intro ha;have:=hn ha;rw[Te]at this;simpa using this
  .intro p hp _;rw[Te];simpa using hp
end
end Go.Virt
end
