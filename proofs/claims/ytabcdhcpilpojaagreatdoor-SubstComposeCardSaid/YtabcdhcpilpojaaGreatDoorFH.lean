/- The law's substitutions: what the generator makes. -/
import Derived.Test.YtabcdhcpilpojaaGreatDoorFF
import Derived.Test.YtabcdhcpilpojaaGreatDoorFG
set_option linter.unusedSimpArgs false
set_option linter.unusedVariables false
section
set_option maxRecDepth 20000
namespace Go.Proofs.YtabcdhcpilpojaaGreatDoor
open Go Go.Pure
open Go.Virt (Ex Ctx Ty TK)
theorem Zzw {α:Type}{Q:α->Prop}{P:Nat->α->α->Prop}(a0:α)(h0:Q a0)(h:∀j a,Q a->∃a',P j a a'/\Q a'):∃f:Nat->α,f 0=a0/\∀j,P j (f j) (f (j+1))/\Q (f j):=by
 let g:Nat->{a:α // Q a}:=fun n=>Nat.rec ⟨a0,h0⟩ (fun j a=>⟨Classical.choose (h j a.1 a.2),(Classical.choose_spec (h j a.1 a.2)).2⟩) n
 refine⟨fun n=>(g n).1,rfl,fun j=>⟨(Classical.choose_spec (h j (g j).1 (g j).2)).1,(g j).2⟩⟩
section
variable {b:Bool}{xs:List Int}{odd:Bool}
inductive St15 (b:Bool)(xs:List Int)(odd:Bool)(v:Yn×Int):Nat->Option (List Nd)->Nat->Prop
 |skip {i i1} (g:Gen 21 [.int .i64 3] b xs i (.int .i64 0) i1):St15 b xs odd v i none i1
 |plain {i i1 i2 v1 t} (ho:odd=false) (g:Gen 21 [.int .i64 3] b xs i (.int .i64 (v1:Nat)) i1) (h1:v1≠0) (g2:Gen 20 [.int .i64 v.2,.int .i64 2,VL V0 false] b xs i1 (TL t) i2) (hT:∃s,GT s 6 139 V0 t):St15 b xs odd v i (some t) i2
 |same {i i1 i2 i3 v1 v2 t} (ho:odd=true) (g:Gen 21 [.int .i64 3] b xs i (.int .i64 (v1:Nat)) i1) (h1:v1≠0) (g1:Gen 21 [.int .i64 8] b xs i1 (.int .i64 (v2:Nat)) i2) (h2:v2≠0) (g2:Gen 20 [.int .i64 v.2,.int .i64 2,VL V0 false] b xs i2 (TL t) i3) (hT:∃s,GT s 6 139 V0 t):St15 b xs odd v i (some t) i3
 |other {i i1 i2 i3 i4 v1 v3 t} (ho:odd=true) (g:Gen 21 [.int .i64 3] b xs i (.int .i64 (v1:Nat)) i1) (h1:v1≠0) (g1:Gen 21 [.int .i64 8] b xs i1 (.int .i64 0) i2) (g3:Gen 21 [.int .i64 4] b xs i2 (.int .i64 (v3:Nat)) i3) (h3:v3 < 4) (g2:Gen 20 [.int .i64 (1+v3),.int .i64 2,VL V0 false] b xs i3 (TL t) i4) (hT:∃s,GT s 6 139 V0 t):St15 b xs odd v i (some t) i4
theorem Z6k (hl:xs.length<=400):Zdv b xs V0 false 6 139 2:=(Zj8 (b2:=false) hl Z2u 2 (by omega) (by decide)).1
theorem st15 (hl:xs.length<=400)(v:Yn×Int)(hv:v∈V0)(i:Nat)(hi:i<=xs.length):∃r i',i'<=xs.length/\St15 b xs odd v i r i':=by
 obtain⟨v1,i1,hv1,R8,Ss,g1⟩:=Yq (b:=b) hl hi 3 3 rfl (by omega) (by omega);have hvs:=Z2u.ok v hv;by_cases h1:v1=0
 .subst h1;exact⟨none,i1,Ss,.skip g1⟩
 .cases ho:odd with
  |false=>
   obtain⟨t,i2,_,Qu,hT,g2⟩:=Z6k (b:=b) hl v.2 hvs.2.2.1 hvs.2.2.2 i1 Ss;exact⟨some t,i2,Qu,.plain rfl g1 h1 g2 ⟨_,hT⟩⟩
  |true=>
   obtain⟨v2,i2,hv2,Ry,Qu,g2⟩:=Yq (b:=b) hl Ss 8 8 rfl (by omega) (by omega);by_cases h2:v2=0
   .subst h2;obtain⟨v3,i3,hv3,ha3,hb3,g3⟩:=Yq (b:=b) hl Qu 4 4 rfl (by omega) (by omega);obtain⟨t,i4,_,hb4,hT,g4⟩:=Z6k (b:=b) hl (1+v3) (by omega) (by omega) i3 hb3;exact⟨some t,i4,hb4,.other rfl g1 h1 g2 g3 hv3 g4 ⟨_,hT⟩⟩
   .obtain ⟨t,i3,_,hb3,hT,g3⟩:=Z6k (b:=b) hl v.2 hvs.2.2.1 hvs.2.2.2 i2 Qu;exact⟨some t,i3,hb3,.same rfl g1 h1 g2 h2 g3 ⟨_,hT⟩⟩
end
def Zbc (s:List Ys):Prop:=∀x∈s,Uv x.1=true/\x.1.length<=2^19/\(∃tr,VT x.2 tr)/\∀u∈Zy x.2,u.fn=false
theorem Zbc.good {s:List Ys}(h:Zbc s):Wd s:=fun x hx=>⟨(h x hx).1,(h x hx).2.1,(h x hx).2.2.1⟩
theorem Zbc.app {s:List Ys}(h:Zbc s){x:Ys}(hx:Uv x.1=true/\x.1.length<=2^19/\(∃tr,VT x.2 tr)/\∀u∈Zy x.2,u.fn=false):Zbc (s++[x]):=by
 intro y hy;rcases List.mem_append.1 hy with hy | hy
 .exact h y hy
 .simp at hy;subst hy;exact hx
theorem Z1y {s:Int}{d N:Nat}{V:List (Yn×Int)}{t:List Nd}(h:GT s d N V t):∀u∈Zy t,u.fn=false:=by
 intro u hu;obtain⟨n,_,_,rfl⟩:=Zhm (fun n hn=>(h.node n hn).2.1) u hu;rfl
theorem Zaiq {b:Bool}{xs:List Int}{odd:Bool}{v:Yn×Int}{i i':Nat}{t:List Nd}(h:St15 b xs odd v i (some t) i'):∃s,GT s 6 139 V0 t:=by
 cases h with
 |plain _ _ _ _ hT=>exact hT
 |same _ _ _ _ _ _ hT=>exact hT
 |other _ _ _ _ _ _ _ hT=>exact hT
theorem Zapi {b:Bool}{xs:List Int}(odd:Bool)(hl:xs.length<=400)(i:Nat)(hi:i<=xs.length):∃f:Nat->List Ys×Nat,f 0=([],i)/\∀j,((∃hj:j < V0.length,∃r,St15 b xs odd V0[j] (f j).2 r (f (j+1)).2/\(f (j+1)).1=(f j).1++(r.toList.map fun t=>(V0[j].1,t)))\/V0.length<=j)/\(f j).2<=xs.length/\Zbc (f j).1:=by
 refine Zzw (α:=List Ys×Nat) (Q:=fun a=>a.2<=xs.length/\Zbc a.1) (P:=fun j a a'=>(∃hj:j < V0.length,∃r,St15 b xs odd V0[j] a.2 r a'.2/\a'.1=a.1++(r.toList.map fun t=>(V0[j].1,t)))\/V0.length<=j) ([],i) ⟨hi,by intro x hx;cases hx⟩ ?_;rintro j ⟨s,k⟩ ⟨hk,hs⟩;by_cases hj:j < V0.length
 .obtain ⟨r,i',h1,h2⟩:=st15 (b:=b) (odd:=odd) hl V0[j] (List.getElem_mem hj) k hk;refine⟨(s++(r.toList.map fun t=>(V0[j].1,t)),i'),.inl ⟨hj,r,h2,rfl⟩,h1,?_⟩;cases r with
  |none=>simpa using hs
  |some t=>
   obtain⟨s0,hT⟩:=Zaiq h2;obtain⟨tr,vt,_⟩:=hT.vt Zto (by omega) (by omega);have hv:=Z2u.ok V0[j] (List.getElem_mem hj);exact hs.app ⟨hv.1,hv.2.1,⟨tr,vt⟩,Z1y hT⟩
 .exact ⟨(s,k),.inr (by omega),hk,hs⟩
theorem Z3b {f:Nat->List Ys×Nat}{b:Bool}{xs:List Int}{odd:Bool}{i:Nat}(h0:f 0=([],i))(h:∀j,((∃hj:j < V0.length,∃r,St15 b xs odd V0[j] (f j).2 r (f (j+1)).2/\(f (j+1)).1=(f j).1++(r.toList.map fun t=>(V0[j].1,t)))\/V0.length<=j)/\(f j).2<=xs.length/\Zbc (f j).1):∀j,j<=V0.length->(f j).1.length<=j:=by
 intro j
 induction j with
 |zero=>intro _;rw[h0];simp
 |succ j ih=>
  intro hj;have h1:=ih (by omega);rcases (h j).1 with⟨hj',r,_,e⟩ | h2
  .rw [e];cases r<;>simp<;>omega
  .omega
inductive StA (b:Bool)(xs:List Int)(s:List Ys)(i:Nat):List Ys->Nat->Prop
 |empty (h:s=[]):StA b xs s i s i
 |no {v i1:Nat} (h:s≠[]) (g:Gen 21 [.int .i64 3] b xs i (.int .i64 v) i1) (hv:v≠0):StA b xs s i s i1
 |yes {k i1 i2:Nat} (h:s≠[]) (g:Gen 21 [.int .i64 3] b xs i (.int .i64 0) i1) (hk:k < s.length) (g2:Gen 21 [.int .i64 (s.length:Int)] b xs i1 (.int .i64 k) i2):StA b xs s i (s++[s[k]]) i2
def nm3 (q:Nat):Yn:=[[102],[120],[107]].getD q []
inductive StB (b:Bool)(xs:List Int)(i:Nat):Option (Nat×Nat)->Nat->Prop
 |no {v i1:Nat} (g:Gen 21 [.int .i64 4] b xs i (.int .i64 v) i1) (hv:v≠0):StB b xs i none i1
 |yes {q w i1 i2 i3:Nat} (g:Gen 21 [.int .i64 4] b xs i (.int .i64 0) i1) (g2:Gen 21 [.int .i64 3] b xs i1 (.int .i64 q) i2) (hq:q < 3) (g3:Gen 21 [.int .i64 4] b xs i2 (.int .i64 w) i3) (hw:w < 4):StB b xs i (some (q,w)) i3
theorem stA {b:Bool}{xs:List Int}(hl:xs.length<=400){s:List Ys}(hs:Zbc s)(hsl:s.length<=8){i:Nat}(hi:i<=xs.length):∃s' i',StA b xs s i s' i'/\i'<=xs.length/\Zbc s'/\s'.length<=9:=by
 by_cases h0:s=[]
 .exact ⟨s,i,.empty h0,hi,hs,by omega⟩
 .obtain ⟨v,i1,hv,ha,hb,g⟩:=Yq (b:=b) hl hi 3 3 rfl (by omega) (by omega);by_cases hv0:v=0
  .subst hv0;have hp:0 < s.length:=List.length_pos_iff.2 h0;obtain⟨k,i2,hk,Ry,Qu,g2⟩:=Yq (b:=b) hl hb s.length s.length rfl hp (by omega);exact⟨_,i2,.yes h0 g hk g2,Qu,hs.app (hs s[k] (List.getElem_mem hk)),by simp;omega⟩
  .exact ⟨s,i1,.no h0 g hv0,hb,hs,by omega⟩
abbrev Z6n (q w:Nat):Ys:=([107],[⟨4,1+w,nm3 q,[],0⟩])
theorem stB {b:Bool}{xs:List Int}(hl:xs.length<=400){i:Nat}(hi:i<=xs.length):∃r i',StB b xs i r i'/\i'<=xs.length:=by
 obtain⟨v,i1,hv,ha,hb,g⟩:=Yq (b:=b) hl hi 4 4 rfl (by omega) (by omega);by_cases hv0:v=0
 .subst hv0;obtain⟨q,i2,hq,Ry,Qu,g2⟩:=Yq (b:=b) hl hb 3 3 rfl (by omega) (by omega);obtain⟨w,i3,hw,ha3,hb3,g3⟩:=Yq (b:=b) hl Qu 4 4 rfl (by omega) (by omega);exact⟨_,i3,.yes g g2 hq g3 hw,hb3⟩
 .exact ⟨none,i1,.no g hv0,hb⟩
theorem Zacr {q w:Nat}(hq:q < 3)(hw:w < 4):Uv (Z6n q w).1=true/\(Z6n q w).1.length<=2^19/\(∃tr,VT (Z6n q w).2 tr)/\∀u∈Zy (Z6n q w).2,u.fn=false:=by
 have hn:Uv (nm3 q)=true/\(nm3 q).length<=2^19:=by
  have:q=0\/q=1\/q=2:=by omega
  rcases this with rfl | rfl | rfl<;>decide +kernel
 have hV:Zkk [(nm3 q,1+(w:Int))]:=by
  intro v hv;simp only[List.mem_singleton]at hv;subst hv;exact⟨hn.1,hn.2,by simp only;omega,by simp only;omega⟩
 have hV1:Qh [(nm3 q,1+(w:Int))]:=by
  intro a ha c hc _;simp only[List.mem_singleton]at ha hc;rw[ha,hc]
 have hT:GT (1+(w:Int)) 1 1 [(nm3 q,1+(w:Int))] [⟨4,1+w,nm3 q,[],0⟩]:=GT.var hV (by simp) (by omega) (by omega);obtain⟨tr,v,_⟩:=hT.vt hV1 (by omega) (by omega);exact⟨by show Uv [107]=true;decide +kernel,by simp,⟨tr,v⟩,Z1y hT⟩
theorem Zyr {q:Nat}(hq:q < 3):∀h,([PV.str [102],PV.str [120],PV.str [107]]:List PV)[q]'h=.str (nm3 q):=by
 have:q=0\/q=1\/q=2:=by omega
 rcases this with rfl | rfl | rfl<;>intro h<;>rfl
set_option maxHeartbeats 4000000 in
theorem Z1z {b:Bool}{xs:List Int}{i:Nat}(hl:xs.length<=400)(hi:i<=xs.length):∃s i',Zbc s/\s.length<=10/\i'<=xs.length/\Gen 15 [.bool true] b xs i (L 47 true (s.map V7)) i':=by
 obtain⟨f,h0,hf⟩:=Zapi (b:=b) true hl i hi;have hlen:=Z3b h0 hf;have h22:=Zaa3;have e22:VL V0 false=.lst 69 (V0.map Zdd):=rfl;have hVP:(V0.map Zdd).length=8:=rfl;obtain⟨sA,iA,hA1,hiA,hsA,hlA⟩:=stA (b:=b) hl (hf 8).2.2 (hlen 8 (by decide)) (hf 8).2.1;obtain⟨rB,iB,hB1,hiB⟩:=stB (b:=b) hl hiA;refine⟨sA++rB.toList.map (fun q=>Z6n q.1 q.2),iB,?_,by cases rB<;>simp<;>omega,hiB,?_⟩
 .cases rB with
  |none=>simpa using hsA
  |some q=>
   have hq:q.1 < 3/\q.2 < 4:=by cases hB1;exact⟨by assumption,by assumption⟩
   simpa using hsA.app (Zacr hq.1 hq.2)
 replace hf:=Hide.mk hf;replace hlen:=Hide.mk hlen
 .intro K H p Zc Zt hlt Zk;have W0:=Yh hlt;refine Wp Tryz.func15 Zt hlt Zk ?_
  (refine Zm ?_;repeat'(first|(refine Zi fun _=>?_;try simp(disch:=first|exact Zw|fail)[*,Zz,Tryz.f15])|refine Zx ?_|refine Zn ?_ ?_))
  refine Zl [0,1,6] (fun m sl h=>∃(j:Nat) (w:PV),m=8 - j/\j<=8/\sl 7=some (.int .i64 j)/\sl 5=some w/\Pure.Acc [45,66,85] ⟨H.next,H.next,[p]⟩ h 47 w ((f j).1.map V7)/\h.get p=some (Zc,Qa b xs (f j).2)/\h.next=H.next+87) 8 rfl ⟨0,.nils,by simp,by simp,by simp,by simp,by rw[h0];exact Pure.Acc.nil,by rw[h0];simp[*],by simp⟩ ?_;rintro m sl h hfr ⟨j,w,hm,hj,h7,h5,hA,hg,U7⟩;simp at hfr;by_cases hlt8:j < 8
  .have hlj:=hlen.get j hj;rcases (hf.get j).1 with⟨hj',r,X2,e⟩ | hbad
   .have hv0:∀VP,V0.map Zdd=VP->∃hh:j < VP.length,VP[j]=Zdd V0[j]:=by
     rintro _ rfl;exact⟨by simpa using hj',by rw[List.getElem_map]⟩
    generalize hVe:V0.map Zdd=VP at *;obtain⟨hv1,hv0⟩:=hv0 VP rfl;clear hVe;generalize hvj:V0[j]=v0 at *;obtain⟨x,so⟩:=v0;simp only at e;generalize hT2:(f (j+1)).1=T2 at *;generalize hk2:(f (j+1)).2=k2 at *;generalize (f j).1=T1 at *;generalize (f j).2=k at *;have hpx:p < h.next:=by omega
    cases X2 with
    |skip g=>
     have Xa:Hide (Pure.Acc [45,66,85] ⟨H.next,H.next,[p]⟩ (h.put p Zc (Qa b xs k2)) 47 w (T2.map V7)):=Hide.mk (by
      rw[e];simp only[Option.toList_none,List.map_nil,List.append_nil];exact hA.frame fun d hd=>by simp at hd;rcases hd with rfl | rfl | rfl<;>simp[Ze hlt])
     clear hA e
     (refine Zm ?_;repeat'(first|(refine Zi fun _=>?_;try simp(disch:=first|exact Zw|fail)[*,Zz])|refine Zx ?_|refine Zn ?_ ?_))
     refine⟨_,by omega,j+1,rfl,by omega,by simp,?_,by rw[hk2]⟩;rw[hT2];exact Xa.get
    |plain ho _ _ _ _=>cases ho
    | @same i1 i2 _ v1 v2 t ho g h1 g1 h2 g2 hT=>
      obtain⟨s0,hT⟩:=hT;rw[e22]at g2;have Yi:=Zkm hT.ne;have hvb:((v1:Int)==0)=false:=by simp;omega
      have hvb2:((v2:Int)==0)=false:=by simp;omega
      obtain⟨w',h',Te,Xj,Tw,hgt⟩:=(hA.frame (h':=h.put p Zc (Qa b xs k2)) (fun d hd=>by simp at hd;rcases hd with rfl | rfl | rfl<;>simp[Ze hlt])).app (dd:=45) (ys:=[PV.agg [.str x,.lst 58 (t.map Zv)]]) (T:={k:=.struct [(0,9),(1,23)],size:=2,bytes:=40,zero:=[.string ⟨#[]⟩,.slice none 0 0]}) (by simp) rfl (by simp only[List.length_map,List.length_cons,List.length_nil];omega) (by decide) (by decide) (by simp);simp only[List.length_cons,List.length_nil]at Te;have hs1:=hA.same (n:=3);have hs2:=Xj.same (n:=3)
      have hp':h'.get p=some (Zc,Qa b xs k2):=by
       rw[hgt p (by intro e he;simp at he;rcases he with rfl | rfl | rfl<;>simp[W0])];simp
      have Xa:Hide (Pure.Acc [45,66,85] ⟨H.next,H.next,[p]⟩ h' 47 w' (T2.map V7)):=Hide.mk (by
       rw[e,Option.toList_some,List.map_cons,List.map_nil,List.map_append,List.map_cons,List.map_nil];show Pure.Acc _ _ _ _ _ (T1.map V7++[PV.agg [.str x,L 58 true (t.map Zv)]]);rw[Yi];exact Xj)
      clear Xj hgt hA e hT Yi
      (refine Zm ?_;repeat'(first|(refine Zi fun _=>?_;try simp(disch:=first|exact Zw|fail)[*,Zz,T6])|refine Zx ?_|refine Zn ?_ ?_))
      refine Yd false true [36] [] [] [] false (by decide +kernel) ?_
      (refine Zm ?_;repeat'(first|(refine Zi fun _=>?_;try simp(disch:=first|exact Zw|fail)[*,Zz,T6])|refine Zx ?_|refine Zn ?_ ?_))
      refine⟨_,by omega,j+1,rfl,by omega,by simp,?_,by rw[hk2]⟩;rw[hT2];exact Xa.get
    | @other i1 i2 i3 _ v1 v3 t ho g h1 g1 g3 h3 g2 hT=>
      obtain⟨s0,hT⟩:=hT;rw[e22]at g2;have Yi:=Zkm hT.ne;have hvb:((v1:Int)==0)=false:=by simp;omega
      obtain⟨w',h',Te,Xj,Tw,hgt⟩:=(hA.frame (h':=h.put p Zc (Qa b xs k2)) (fun d hd=>by simp at hd;rcases hd with rfl | rfl | rfl<;>simp[Ze hlt])).app (dd:=45) (ys:=[PV.agg [.str x,.lst 58 (t.map Zv)]]) (T:={k:=.struct [(0,9),(1,23)],size:=2,bytes:=40,zero:=[.string ⟨#[]⟩,.slice none 0 0]}) (by simp) rfl (by simp only[List.length_map,List.length_cons,List.length_nil];omega) (by decide) (by decide) (by simp);simp only[List.length_cons,List.length_nil]at Te;have hs1:=hA.same (n:=3);have hs2:=Xj.same (n:=3)
      have hp':h'.get p=some (Zc,Qa b xs k2):=by
       rw[hgt p (by intro e he;simp at he;rcases he with rfl | rfl | rfl<;>simp[W0])];simp
      have Xa:Hide (Pure.Acc [45,66,85] ⟨H.next,H.next,[p]⟩ h' 47 w' (T2.map V7)):=Hide.mk (by
       rw[e,Option.toList_some,List.map_cons,List.map_nil,List.map_append,List.map_cons,List.map_nil];show Pure.Acc _ _ _ _ _ (T1.map V7++[PV.agg [.str x,L 58 true (t.map Zv)]]);rw[Yi];exact Xj)
      clear Xj hgt hA e hT Yi
      (refine Zm ?_;repeat'(first|(refine Zi fun _=>?_;try simp(disch:=first|exact Zw|fail)[*,Zz,T6])|refine Zx ?_|refine Zn ?_ ?_))
      refine Yd false true [36] [] [] [] false (by decide +kernel) ?_
      (refine Zm ?_;repeat'(first|(refine Zi fun _=>?_;try simp(disch:=first|exact Zw|fail)[*,Zz,T6])|refine Zx ?_|refine Zn ?_ ?_))
      refine⟨_,by omega,j+1,rfl,by omega,by simp,?_,by rw[hk2]⟩;rw[hT2];exact Xa.get
   .exact absurd hbad (by simp[V0];omega)
  .have e8:j=8:=by omega
   subst e8;have W1:=hA.inl;have Za1:=hA.inlT;rw[W1]at Za1;have hot:=hA.ownT;have hlk:=hA.lenK (e:=47);have hvb:∀v:Nat,v≠0->((v:Int)==0)=false:=fun v hv=>by simp;omega
   have hpx:p < h.next:=by omega
   cases hA1 with
   |empty hs0=>
    cases hB1 with
    |no g2 hv2=>
     have hA2:=hA.frame (h':=h.put p Zc (Qa b xs iB)) (fun d hd=>by simp at hd;rcases hd with rfl | rfl | rfl<;>simp[Ze hlt]);have W1:=hA2.inl;have Za1:=hA2.inlT;have hot:=hA2.ownT;rw[W1]at Za1
     (refine Zm ?_;repeat'(first|(refine Zi fun _=>?_;try simp(disch:=first|exact Zw|fail)[*,Zz,hs0,hvb _ hv2])|refine Zx ?_|refine Zn ?_ ?_))
     exact fun x hx=>hot x hx
    | @yes q w1 i1 i2 _ g g2 hq g3 hw=>
      have hq3:=Zyr hq;have h48:=Zte (nm3 q) (1+(w1:Int));obtain⟨w',h',Te,Xj,Tw,hgt⟩:=(hA.frame (h':=h.put p Zc (Qa b xs iB)) (fun d hd=>by simp at hd;rcases hd with rfl | rfl | rfl<;>simp[Ze hlt])).app (dd:=85) (ys:=[PV.agg [.str [107],TL [⟨4,1+(w1:Int),nm3 q,[],0⟩]]]) (T:={k:=.struct [(0,9),(1,23)],size:=2,bytes:=40,zero:=[.string ⟨#[]⟩,.slice none 0 0]}) (by simp) rfl (by simp only[List.length_map,List.length_cons,List.length_nil,List.length_append];omega) (by decide) (by decide) (by simp);simp only[List.length_cons,List.length_nil]at Te
      have hp':h'.get p=some (Zc,Qa b xs iB):=by
       rw[hgt p (by intro e he;simp at he;rcases he with rfl | rfl | rfl<;>simp[W0])];simp
      have W1:=Xj.inl;have Za1:=Xj.inlT;have hot:=Xj.ownT;rw[W1]at Za1;have hs1:=hA.same (n:=3);have hs2:=Xj.same (n:=3);clear Xj hA hgt
      (refine Zm ?_;repeat'(first|(refine Zi fun _=>?_;try simp(disch:=first|exact Zw|fail)[*,Zz,hs0,T6])|refine Zx ?_|refine Zn ?_ ?_))
      refine Yd false true [] [] [] [] false (by decide +kernel) ?_
      (refine Zm ?_;repeat'(first|(refine Zi fun _=>?_;try simp(disch:=first|exact Zw|fail)[*,Zz,T6])|refine Zx ?_|refine Zn ?_ ?_))
      exact fun x hx=>hot x hx
   |no Yi g hv=>
    have hlp:=List.length_pos_iff.2 Yi;cases hB1 with
    |no g2 hv2=>
     have hA2:=hA.frame (h':=h.put p Zc (Qa b xs iB)) (fun d hd=>by simp at hd;rcases hd with rfl | rfl | rfl<;>simp[Ze hlt]);have W1:=hA2.inl;have Za1:=hA2.inlT;have hot:=hA2.ownT;rw[W1]at Za1
     (refine Zm ?_;repeat'(first|(refine Zi fun _=>?_;try simp(disch:=first|exact Zw|fail)[*,Zz,hvb _ hv,hvb _ hv2,T6])|refine Zx ?_|refine Zn ?_ ?_))
     exact fun x hx=>hot x hx
    | @yes q w1 i1 i2 _ g1 g2 hq g3 hw=>
      have hq3:=Zyr hq;have h48:=Zte (nm3 q) (1+(w1:Int));obtain⟨w',h',Te,Xj,Tw,hgt⟩:=(hA.frame (h':=h.put p Zc (Qa b xs iB)) (fun d hd=>by simp at hd;rcases hd with rfl | rfl | rfl<;>simp[Ze hlt])).app (dd:=85) (ys:=[PV.agg [.str [107],TL [⟨4,1+(w1:Int),nm3 q,[],0⟩]]]) (T:={k:=.struct [(0,9),(1,23)],size:=2,bytes:=40,zero:=[.string ⟨#[]⟩,.slice none 0 0]}) (by simp) rfl (by simp only[List.length_map,List.length_cons,List.length_nil,List.length_append];omega) (by decide) (by decide) (by simp);simp only[List.length_cons,List.length_nil]at Te
      have hp':h'.get p=some (Zc,Qa b xs iB):=by
       rw[hgt p (by intro e he;simp at he;rcases he with rfl | rfl | rfl<;>simp[W0])];simp
      have W1:=Xj.inl;have Za1:=Xj.inlT;have hot:=Xj.ownT;rw[W1]at Za1;have hs1:=hA.same (n:=3);have hs2:=Xj.same (n:=3);clear Xj hA hgt
      (refine Zm ?_;repeat'(first|(refine Zi fun _=>?_;try simp(disch:=first|exact Zw|fail)[*,Zz,hvb _ hv,T6])|refine Zx ?_|refine Zn ?_ ?_))
      refine Yd false true [] [] [] [] false (by decide +kernel) ?_
      (refine Zm ?_;repeat'(first|(refine Zi fun _=>?_;try simp(disch:=first|exact Zw|fail)[*,Zz,T6])|refine Zx ?_|refine Zn ?_ ?_))
      exact⟨rfl,fun x hx=>hot x hx⟩
   | @yes k i1 _ Yi g hk g2=>
     have hlp:=List.length_pos_iff.2 Yi;have hs8:=hlen.get 8 (by decide);obtain⟨d,vw,hdS,hw,hgd⟩:=hA.own (by simpa using Yi);have hdp:¬ H.next+d=p:=by simp[Ze hlt]
     have hg2:(h.put p Zc (Qa b xs iA)).get (H.next+d)=some (vw,.row 47 true ((f 8).1.map V7)):=by
      simp only[PH.put,hdp,if_false];exact hgd
     have Ug:(h.put p Zc (Qa b xs iA)).row (H.next+d) vw 47=some (true,(f 8).1.map V7):=by
      unfold PH.row;rw[hg2];simp
     have hik:∀j,Zpi vE (.slice 47) w j=none:=fun j=>by rw[hw,Z8c]
     have hio:Z8b vE (h.put p Zc (Qa b xs iA)) (.slice 47) w (.int .i64 (k:Int))=some (.eptr (H.next+d) vw 47 k 0,h.put p Zc (Qa b xs iA)):=by
      rw[hw,Z79 rfl];show (bO ((h.put p Zc (Qa b xs iA)).row (H.next+d) vw 47) _)=_;rw[Ug,Xw,Z8a (by omega) (by simp;omega) (by simp)];simp
     have hAf:=hA.frame (h':=h.put p Zc (Qa b xs iA)) (fun d hd=>by simp at hd;rcases hd with rfl | rfl | rfl<;>simp[Ze hlt]);obtain⟨w2,h2,hap2,hA2,Zsh,hgt2⟩:=hAf.app (dd:=66) (ys:=[V7 (f 8).1[k]]) (T:={k:=.struct [(0,9),(1,23)],size:=2,bytes:=40,zero:=[.string ⟨#[]⟩,.slice none 0 0]}) (by simp) rfl (by simp only[List.length_map,List.length_cons,List.length_nil];omega) (by decide) (by decide) (by simp);simp only[List.length_cons,List.length_nil]at hap2
     have hp2:h2.get p=some (Zc,Qa b xs iA):=by
      rw[hgt2 p (by intro e he;simp at he;rcases he with rfl | rfl | rfl<;>simp[W0])];simp
     have Z8v:h2.next=h.next:=by rw[Zsh];rfl
     have hsm2:=hA2.same (n:=3);have hlw2:=hA2.lenK (e:=47);have hs1:=hA.same (n:=3);have hs2:=hA2.same (n:=3);clear hw hA;cases hB1 with
     |no g3 hv2=>
      have hA3:=hA2.frame (h':=h2.put p Zc (Qa b xs iB)) (fun d hd=>by simp at hd;rcases hd with rfl | rfl | rfl<;>simp[Ze hlt]);have W1:=hA3.inl;have Za1:=hA3.inlT;have hot:=hA3.ownT;rw[W1]at Za1
      (refine Zm ?_;repeat'(first|(refine Zi fun _=>?_;try simp(disch:=first|exact Zw|fail)[*,Zz,hvb _ hv2,T6])|refine Zx ?_|refine Zn ?_ ?_))
      exact fun x hx=>hot x hx
     | @yes q w1 i1 i2 _ g1 g3 hq g4 hw=>
       have hq3:=Zyr hq;have h48:=Zte (nm3 q) (1+(w1:Int));obtain⟨w',h',Te,Xj,Tw,hgt⟩:=(hA2.frame (h':=h2.put p Zc (Qa b xs iB)) (fun d hd=>by simp at hd;rcases hd with rfl | rfl | rfl<;>simp[Ze hlt])).app (dd:=85) (ys:=[PV.agg [.str [107],TL [⟨4,1+(w1:Int),nm3 q,[],0⟩]]]) (T:={k:=.struct [(0,9),(1,23)],size:=2,bytes:=40,zero:=[.string ⟨#[]⟩,.slice none 0 0]}) (by simp) rfl (by simp only[List.length_map,List.length_cons,List.length_nil,List.length_append];omega) (by decide) (by decide) (by simp);simp only[List.length_cons,List.length_nil]at Te
       have hp':h'.get p=some (Zc,Qa b xs iB):=by
        rw[hgt p (by intro e he;simp at he;rcases he with rfl | rfl | rfl<;>simp[W0])];simp
       have W1:=Xj.inl;have Za1:=Xj.inlT;have hot:=Xj.ownT;rw[W1]at Za1;have hs3:=Xj.same (n:=3);clear Xj hA2 hgt
       (refine Zm ?_;repeat'(first|(refine Zi fun _=>?_;try simp(disch:=first|exact Zw|fail)[*,Zz,T6])|refine Zx ?_|refine Zn ?_ ?_))
       refine Yd false true [] [] [] [] false (by decide +kernel) ?_
       (refine Zm ?_;repeat'(first|(refine Zi fun _=>?_;try simp(disch:=first|exact Zw|fail)[*,Zz,T6])|refine Zx ?_|refine Zn ?_ ?_))
       exact⟨rfl,fun x hx=>hot x hx⟩
theorem Zri (t:List Nd)(s:List Ys):(Yo t s).1.length<=20000:=by
 unfold Yo;split
 .simp
 .split
  .simp
  .split
   .simp
   .split
    .simp
    .split
     .simp only;omega
     .simp
end Go.Proofs.YtabcdhcpilpojaaGreatDoor
end
