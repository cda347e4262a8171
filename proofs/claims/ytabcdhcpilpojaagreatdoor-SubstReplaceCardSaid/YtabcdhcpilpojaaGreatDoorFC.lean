/- Choices: the walks of the small ones. -/
import Derived.Test.YtabcdhcpilpojaaGreatDoorFB
import Derived.Test.YtabcdhcpilpojaaGreatDoorPD
set_option linter.unusedSimpArgs false
set_option linter.unusedVariables false
section
set_option maxRecDepth 20000
namespace Go.Proofs.YtabcdhcpilpojaaGreatDoor
open Go Go.Pure
open Go.Virt (Ex Ctx Ty TK)
abbrev chO (b:Bool)(xs:List Int)(i:Nat):PO:=.cells [L 3 b (xs.map (.int .i64)),.int .i64 i]
abbrev Gen (f:Nat)(rest:List PV)(b:Bool)(xs:List Int)(i:Nat)(v:PV)(i':Nat):Prop:=∀K H p Zc,can K p=true->p < H.next->H.get p=some (Zc,chO b xs i)->Yh vE K f (.ptr p Zc 0::rest) H=some (v,H.put p Zc (chO b xs i'))
theorem Yg {p n:Nat}(h:p < n):∀d,(p=n+d)=False:=fun d=>by simp;omega
theorem Ze {p n:Nat}(h:p < n):∀d,(n+d=p)=False:=fun d=>by simp;omega
section
variable {b:Bool}{xs:List Int}{i:Nat}
theorem Zak6 (hl:xs.length<=400)(hi:i < xs.length)(n:Nat)(hn:0 < n)(hn2:n < 2^62):Gen 21 [.int .i64 n] b xs i (.int .i64 (Zu8 xs[i] n)) (i+1):=by
 have h27:=Zaaj xs[i] n hn hn2;intro K H p Zc Zu hlt Zk;have W5:=Yg hlt;refine Wp Tryz.func21 Zu hlt Zk ?_
 (refine Zm ?_;repeat'(first|(refine Zi fun _=>?_;try simp(disch:=first|exact Zq|fail)[*,Yb,Tryz.f21])|refine Ye ?_|refine Zx ?_|refine Zn ?_ ?_))
theorem Zad0 (hl:xs.length<=400)(n:Int):Gen 21 [.int .i64 n] b xs xs.length (.int .i64 0) xs.length:=by
 intro K H p Zc Zu hlt Zk;have W5:=Yg hlt;refine Wp Tryz.func21 Zu hlt Zk ?_
 (refine Zm ?_;repeat'(first|(refine Zi fun _=>?_;try simp(disch:=first|exact Zq|fail)[*,Yb,Tryz.f21])|refine Ye ?_|refine Zx ?_|refine Zn ?_ ?_))
theorem Yy (hl:xs.length<=400)(hi:i<=xs.length)(n:Nat)(m:Int)(hm:m=n)(hn:0 < n)(hn2:n < 2^62):∃v i':Nat,v < n/\i<=i'/\i'<=xs.length/\Gen 21 [.int .i64 m] b xs i (.int .i64 v) i':=by
 subst hm;by_cases h:i < xs.length
 .exact ⟨_,i+1,Zrn _ hn,by omega,by omega,Zak6 hl h n hn hn2⟩
 .have:i=xs.length:=by omega
  subst this;exact⟨0,_,hn,by omega,by omega,Zad0 hl n⟩
theorem Znm (hl:xs.length<=400)(hi:i<=xs.length):Gen 69 [] b xs i (.bool (decide (i < xs.length))) i:=by
 intro K H p Zc Zu hlt Zk;have W5:=Yg hlt;refine Wp Tryz.func69 Zu hlt Zk ?_
 (refine Zm ?_;repeat'(first|(refine Zi fun _=>?_;try simp(disch:=first|exact Zq|fail)[*,Yb,Tryz.f69])|refine Ye ?_|refine Zx ?_|refine Zn ?_ ?_))
def Zw8 (n:Nat)(s:Y9):Prop:=∃r:Rt,r.Ok/\r.den=1/\s=r.text/\s.length<=n
theorem Zeb {n:Nat}{k:Int}(h:k.natAbs < 10^n)(hn:0 < n):Zw8 (n+1) (Zca k):=by
 refine⟨Rt.int k,Zyo k,rfl,(Zea k).symm,?_⟩;have:=Qe hn h;unfold Zca;split<;>simp<;>omega
theorem Z0w {m n:Nat}{s:Y9}(h:Zw8 m s)(hmn:m<=n):Zw8 n s:=by
 obtain⟨r,a,b,c,d⟩:=h;exact⟨r,a,b,c,by omega⟩
theorem Z1h (hl:xs.length<=400)(hi:i<=xs.length):∃s i',i<=i'/\i'<=xs.length/\Zw8 40 s/\Gen 142 [] b xs i (.str s) i':=by
 obtain⟨v1,i1,hv1,Ro,Sk,g1⟩:=Yy (b:=b) hl hi 8 8 rfl (by omega) (by omega);by_cases h6:v1=6
 .obtain ⟨v2,i2,hv2,Qg,hb2,g2⟩:=Yy (b:=b) hl Sk 2001 2001 rfl (by omega) (by omega);have h38:=Rz ((v2:Int) - 1000) (by omega) (by omega);refine⟨Zca ((v2:Int) - 1000),i2,by omega,hb2,Z0w (Zeb (n:=5) (by omega) (by omega)) (by omega),?_⟩;intro K H p Zc Zu hlt Zk;have W5:=Yg hlt;refine Wp Tryz.func142 Zu hlt Zk ?_
  (refine Zm ?_;repeat'(first|(refine Zi fun _=>?_;try simp(disch:=first|exact Zq|fail)[*,Yb,Tryz.f142])|refine Ye ?_|refine Zx ?_|refine Zn ?_ ?_))
 .by_cases h7:v1=7
  .obtain ⟨v2,i2,hv2,Qg,hb2,g2⟩:=Yy (b:=b) hl Sk 1099511627776 1099511627776 rfl (by omega) (by omega);obtain⟨v3,i3,hv3,ha3,hb3,g3⟩:=Yy (b:=b) hl hb2 1099511627776 1099511627776 rfl (by omega) (by omega);have h38:=Rz ((v2:Int) - 549755813888) (by omega) (by omega);have h38':=Rz (v3:Int) (by omega) (by omega);obtain⟨r1,o1,d1,e1,l1⟩:=Zeb (n:=13) (k:=(v2:Int) - 549755813888) (by omega) (by omega);obtain⟨r2,o2,d2,e2,l2⟩:=Zeb (n:=13) (k:=(v3:Int)) (by omega) (by omega);rw[e1]at h38 l1;rw[e2]at h38' l2;have h150:=Zafo o1 o2 (by omega) (by omega)
   have hT:Zw8 40 (r1.mul r2).text:=by
    refine⟨_,Zyh _ _ (Nat.mul_pos o1.den o2.den),?_,rfl,?_⟩
    .simp [Rt.mul,Rt.mk',d1,d2]
    .have h1:=Z0b (r1.mul r2);have h2:=Zle (!(r1.neg==r2.neg)) (r1.num*r2.num) (r1.den*r2.den);have h3:=Vq r1.num r2.num;have h4:=Vq r1.den r2.den;have h5:=V1 r1;have h6:=V1 r2;have h7:(Zf r1.den).length=1:=by rw[d1,Zf];rfl
     have h8:(Zf r2.den).length=1:=by rw[d2,Zf];rfl
     unfold Rt.mul at h1 ⊢;omega
   refine⟨_,i3,by omega,hb3,hT,?_⟩;clear e1 e2;intro K H p Zc Zu hlt Zk;have W5:=Yg hlt;refine Wp Tryz.func142 Zu hlt Zk ?_
   (refine Zm ?_;repeat'(first|(refine Zi fun _=>?_;try simp(disch:=first|exact Zq|fail)[*,Yb,Tryz.f142])|refine Ye ?_|refine Zx ?_|refine Zn ?_ ?_))
  .obtain ⟨v2,i2,hv2,Qg,hb2,g2⟩:=Yy (b:=b) hl Sk 9 9 rfl (by omega) (by omega);have h38:=Rz ((v2:Int) - 4) (by omega) (by omega);refine⟨Zca ((v2:Int) - 4),i2,by omega,hb2,Z0w (Zeb (n:=5) (by omega) (by omega)) (by omega),?_⟩;intro K H p Zc Zu hlt Zk;have W5:=Yg hlt;refine Wp Tryz.func142 Zu hlt Zk ?_
   (refine Zm ?_;repeat'(first|(refine Zi fun _=>?_;try simp(disch:=first|exact Zq|fail)[*,Yb,Tryz.f142])|refine Ye ?_|refine Zx ?_|refine Zn ?_ ?_))
def Zz2 (n:Nat)(s:Y9):Prop:=∃r:Rt,r.Ok/\s=r.text/\s.length<=n/\r.den < 1000000000
theorem Zad1 (hl:xs.length<=400)(hi:i<=xs.length):∃s i',i<=i'/\i'<=xs.length/\Zz2 60 s/\Gen 143 [] b xs i (.str s) i':=by
 obtain⟨s1,i1,Ro,Sk,⟨r1,o1,d1,rfl,l1⟩,g1⟩:=Z1h (b:=b) hl hi;obtain⟨v2,i2,hv2,Qg,hb2,g2⟩:=Yy (b:=b) hl Sk 4 4 rfl (by omega) (by omega);have h38:=Rz (1+v2:Int) (by omega) (by omega);obtain⟨r2,o2,d2,e2,l2⟩:=Zeb (n:=1) (k:=(1+v2:Int)) (by omega) (by omega)
 have hn2:r2.num≠0:=by
  have:(Rt.int (1+v2:Int))=r2:=Zt6 (by rw[Zea,e2]);rw[<- this];simp[Rt.int];omega
 rw[e2]at h38 l2;have h164:=Zafi o1 o2 (by omega) (by omega) hn2
 have hT:Zz2 60 (r1.div r2).text:=by
  have hden:(r1.div r2).den < 1000000000:=by
   have h1:(r1.div r2).den<=r1.den*r2.num:=Nat.div_le_self _ _
   have h2:r2.num=1+v2:=by
    have:(Rt.int (1+v2:Int))=r2:=Zt6 (by rw[Zea,e2]);rw[<- this];simp[Rt.int];omega
   rw[d1,h2]at h1;omega
  refine⟨_,Zyh _ _ (Nat.mul_pos o1.den (by omega)),rfl,?_,hden⟩;have h1:=Z0b (r1.div r2);have h2:=Zle (!(r1.neg==r2.neg)) (r1.num*r2.den) (r1.den*r2.num);have h3:=Vq r1.num r2.den;have h4:=Vq r1.den r2.num;have h5:=V1 r1;have h6:=V1 r2;have h7:(Zf r1.den).length=1:=by rw[d1,Zf];rfl
  have h8:(Zf r2.den).length=1:=by rw[d2,Zf];rfl
  unfold Rt.div at h1 ⊢;omega
 refine⟨_,i2,by omega,hb2,hT,?_⟩;clear e2;intro K H p Zc Zu hlt Zk;have W5:=Yg hlt;refine Wp Tryz.func143 Zu hlt Zk ?_
 (refine Zm ?_;repeat'(first|(refine Zi fun _=>?_;try simp(disch:=first|exact Zq|fail)[*,Yb,Tryz.f143])|refine Ye ?_|refine Zx ?_|refine Zn ?_ ?_))
theorem Z1i (hl:xs.length<=400)(hi:i<=xs.length)(sort:Int):∃s i',i<=i'/\i'<=xs.length/\Zz2 60 s/\(sort=2->Zw8 40 s)/\Gen 120 [.int .i64 sort] b xs i (.str s) i':=by
 by_cases h2:sort=2
 .obtain ⟨s1,i1,Ro,Sk,hT,g1⟩:=Z1h (b:=b) hl hi;obtain⟨r1,o1,d1,e1,l1⟩:=id hT;refine⟨s1,i1,Ro,Sk,⟨r1,o1,e1,by omega,by omega⟩,fun _=>hT,?_⟩;clear hT e1;intro K H p Zc Zu hlt Zk;have W5:=Yg hlt;refine Wp Tryz.func120 Zu hlt Zk ?_
  (refine Zm ?_;repeat'(first|(refine Zi fun _=>?_;try simp(disch:=first|exact Zq|fail)[*,Yb,Tryz.f120])|refine Ye ?_|refine Zx ?_|refine Zn ?_ ?_))
 .obtain ⟨s1,i1,Ro,Sk,hT,g1⟩:=Zad1 (b:=b) hl hi;refine⟨s1,i1,Ro,Sk,hT,fun h=>absurd h h2,?_⟩;intro K H p Zc Zu hlt Zk;have W5:=Yg hlt;refine Wp Tryz.func120 Zu hlt Zk ?_
  (refine Zm ?_;repeat'(first|(refine Zi fun _=>?_;try simp(disch:=first|exact Zq|fail)[*,Yb,Tryz.f120])|refine Ye ?_|refine Zx ?_|refine Zn ?_ ?_))
end
abbrev Zau (sort:Int)(bo:Bool)(num:Y9)(ks vs:List Y9):PV:=.agg [.int .i64 sort,.bool bo,.str num,L 9 true (ks.map .str),L 9 true (vs.map .str)]
theorem Z1x (sort:Int)(bo:Bool)(num:Y9)(hl:num.length<=2^19)(h:sort=1/\num=[]\/sort=2/\bo=false/\Ul num=true\/sort=3/\bo=false/\Zae num=true):Xq vE 79 [Zau sort bo num [] []] (.bool true):=by
 have Z9e:=Zc7 num hl;have h123:=Z2a num hl;rcases h with⟨rfl,rfl⟩ | ⟨rfl,rfl,h⟩ | ⟨rfl,rfl,h⟩
 .clear Z9e h123;intro K H;refine Wc Tryz.func79 ?_
  (refine Zm ?_;repeat'(first|(refine Zi fun _=>?_;try simp(disch:=first|exact Zq|fail)[*,Yb,Tryz.f79])|refine Ye ?_|refine Zx ?_|refine Zn ?_ ?_))
 .rw [h]at Z9e;clear h h123;intro K H;refine Wc Tryz.func79 ?_
  (refine Zm ?_;repeat'(first|(refine Zi fun _=>?_;try simp(disch:=first|exact Zq|fail)[*,Yb,Tryz.f79])|refine Ye ?_|refine Zx ?_|refine Zn ?_ ?_))
 .rw [h]at h123;clear h Z9e;intro K H;refine Wc Tryz.func79 ?_
  (refine Zm ?_;repeat'(first|(refine Zi fun _=>?_;try simp(disch:=first|exact Zq|fail)[*,Yb,Tryz.f79])|refine Ye ?_|refine Zx ?_|refine Zn ?_ ?_))
theorem Zst (num:Y9)(ks vs:List Y9)(hl:num.length<=2^19)(h:Ul num=true)(hk:ks=[]/\vs=[]\/∃k v,ks=[k]/\vs=[v]/\Ul k=true/\Ul v=true/\v≠num/\k.length<=2^19/\v.length<=2^19):Xq vE 79 [Zau 4 false num ks vs] (.bool true):=by
 have Z9e:=Zc7 num hl;rw[h]at Z9e;clear h;rcases hk with⟨rfl,rfl⟩ | ⟨k,v,rfl,rfl,hk,hv,Yp,Q1,hvl⟩
 .intro K H;refine Wc Tryz.func79 ?_
  (refine Zm ?_;repeat'(first|(refine Zi fun _=>?_;try simp(disch:=first|exact Zq|fail)[*,Yb,Tryz.f79])|refine Ye ?_|refine Zx ?_|refine Zn ?_ ?_))
  generalize hv1:H.stamp (H.next+1)=v1;refine Zv [1] (fun n sl h=>n=0/\sl 3=some (.int .i64 0)/\h.get (H.next+1)=some (v1,.cells [.int .i64 4,.bool false,.str num,.nils,.nils])) 0 rfl ⟨rfl,by simp,by simp[*,Wn]⟩ ?_;rintro n sl h hf ⟨rfl,h3,hg⟩;simp at hf
  (refine Zm ?_;repeat'(first|(refine Zi fun _=>?_;try simp(disch:=first|exact Zq|fail)[*,Yb])|refine Ye ?_|refine Zx ?_|refine Zn ?_ ?_))
 .have hK:=Zc7 k Q1;have hV:=Zc7 v hvl;rw[hk]at hK;rw[hv]at hV;intro K H;refine Wc Tryz.func79 ?_
  (refine Zm ?_;repeat'(first|(refine Zi fun _=>?_;try simp(disch:=first|exact Zq|fail)[*,Yb,Tryz.f79])|refine Ye ?_|refine Zx ?_|refine Zn ?_ ?_))
  generalize hv1:H.stamp (H.next+1)=v1;refine Zv [1] (fun n sl h=>∃i:Nat,n=1 - i/\i<=1/\sl 3=some (.int .i64 i)/\h.get (H.next+1)=some (v1,.cells [.int .i64 4,.bool false,.str num,L 9 true [.str k],L 9 true [.str v]])) 1 rfl ⟨0,by simp,by simp,by simp,by simp[*]⟩ ?_;rintro n sl h hf ⟨i,hn,hi,h3,hg⟩;simp at hf;by_cases h0:i=0
  .subst h0
   (refine Zm ?_;repeat'(first|(refine Zi fun _=>?_;try simp(disch:=first|exact Zq|fail)[*,Yb])|refine Ye ?_|refine Zx ?_|refine Zn ?_ ?_))
   .exact absurd ‹v=num› Yp
   .exact ⟨1,by omega,by omega,rfl⟩
  .have:i=1:=by omega
   subst this
   (refine Zm ?_;repeat'(first|(refine Zi fun _=>?_;try simp(disch:=first|exact Zq|fail)[*,Yb])|refine Ye ?_|refine Zx ?_|refine Zn ?_ ?_))
def Nd.Sm (n:Nd):Prop:=n.op=3->(Zbq n.num).den < 1000000000
structure GT (s:Int)(d N:Nat)(V:List (Y9×Int))(t:List Nd):Prop where
 tree:∃tr,(∀r,Zg d (t++r)=some (tr,r))/\Zl tr=s
 node:∀n∈t,n.Short/\n.op≠5/\(n.op=4->(n.name,n.sort)∈V)/\n.Sm
 len:t.length<=N
 pos:0 < s
inductive GTs (d N:Nat)(V:List (Y9×Int)):List Int->List (List Nd)->Prop
 |nil:GTs d N V [] []
 |cons {s t ss ts}:GT s d N V t->GTs d N V ss ts->GTs d N V (s::ss) (t::ts)
theorem GT.mono {s:Int}{d N d' N':Nat}{V:List (Y9×Int)}{t:List Nd}(h:GT s d N V t)(hd:d<=d')(hN:N<=N'):GT s d' N' V t:=by
 obtain⟨tr,h1,h2⟩:=h.tree;exact⟨⟨tr,fun r=>Sw hd (h1 r),h2⟩,h.node,Nat.le_trans h.len hN,h.pos⟩
theorem Zqg {d:Nat}{n:Nd}{t r:List Nd}{tr:Tr}(h:Zg d (n::t)=some (tr,r)):tr.op=n.op:=by
 cases d with
 |zero=>simp[Zg]at h
 |succ d=>
  rw[Zg]at h;split at h
  .split at h
   .cases h
   .cases h;rfl
  .cases h
theorem GTs.len {d N:Nat}{V:List (Y9×Int)}{ss:List Int}{ks:List (List Nd)}(h:GTs d N V ss ks):ss.length=ks.length:=by
 induction h with
 |nil=>rfl
 |cons _ _ ih=>simp[ih]
theorem GTs.mny {d N:Nat}{V:List (Y9×Int)}{ss:List Int}{ks:List (List Nd)}(h:GTs d N V ss ks):∃trs,(∀r,many (Zg d) ks.length (ks.flatten++r)=some (trs,r))/\Ym trs=ss/\trs.length=ks.length/\(∀n0 r ks',ks=(n0::r)::ks'->Vd trs=n0.op):=by
 induction h with
 |nil=>exact⟨[],fun r=>rfl,rfl,rfl,by simp⟩
 | @cons s t ss ts h1 h2 ih=>
   obtain⟨tr,a1,a2⟩:=h1.tree;obtain⟨trs,b1,b2,b3,_⟩:=ih;refine⟨tr::trs,fun r=>?_,by simp[Ym,a2,b2],by simp[b3],?_⟩
   .simp only [List.length_cons,many,List.flatten_cons,List.append_assoc,a1,b1]
   .intro n0 r ks' e;simp only[List.cons.injEq]at e;have:=a1 [];rw[e.1,List.cons_append]at this;exact Zqg this
theorem GTs.node {d N:Nat}{V:List (Y9×Int)}{ss:List Int}{ks:List (List Nd)}(h:GTs d N V ss ks):∀n∈ks.flatten,n.Short/\n.op≠5/\(n.op=4->(n.name,n.sort)∈V)/\n.Sm:=by
 induction h with
 |nil=>simp
 |cons h1 _ ih=>
  intro n hn;simp only[List.flatten_cons,List.mem_append]at hn;rcases hn with hn | hn
  .exact h1.node n hn
  .exact ih n hn
theorem GTs.size {d N:Nat}{V:List (Y9×Int)}{ss:List Int}{ks:List (List Nd)}(h:GTs d N V ss ks):ks.flatten.length<=ks.length*N:=by
 induction h with
 |nil=>simp
 |cons h1 _ ih=>
  have:=h1.len;simp only[List.flatten_cons,List.length_append,List.length_cons,Nat.succ_mul];omega
theorem GTs.all {d N:Nat}{V:List (Y9×Int)}{ss:List Int}{ks:List (List Nd)}(h:GTs d N V ss ks):ss.all (fun s=>decide (0 < s))=true:=by
 induction h with
 |nil=>rfl
 |cons h1 _ ih=>simp[h1.pos,ih]
theorem GT.join {n:Nd}{s:Int}{d N N':Nat}{V:List (Y9×Int)}{ss:List Int}{ks:List (List Nd)}(h:GTs d N V ss ks)(hn:n.Short)(h4:n.op≠4)(h5:n.op≠5)(hf:Wa n.op n.sort n.name n.num=true)(ha:Yz n.op ks.length=true)
  (h3:n.op≠3) (hs:∀f,(∀n0 r ks',ks=(n0::r)::ks'->f=n0.op)->Wz n.op n.sort f ss=s) (hp:0 < s) (hN:ks.length*N+1<=N'):GT s (d+1) N' V (Xh n ks):=by
 obtain⟨trs,b1,b2,b3,b4⟩:=h.mny;refine⟨⟨.mk n.op n.sort n.name n.num trs,fun r=>?_,?_⟩,?_,?_,hp⟩
 .simp only [Xh,List.cons_append,Zg,hf,ha,Bool.and_self,if_true,Int.toNat_natCast,b1]
 .simp only [Zl,b2,h.all,if_true];exact hs _ b4
 .intro m hm;simp only[Xh,List.mem_cons]at hm;rcases hm with rfl | hm
  .exact ⟨hn,h5,fun e=>absurd e h4,fun e=>absurd e h3⟩
  .exact h.node m hm
 .have:=h.size;simp only[Xh,List.length_cons];omega
theorem GT.leaf {n:Nd}{s:Int}{d N:Nat}{V:List (Y9×Int)}(hn:n.Short)(h5:n.op≠5)(h4:n.op=4->(n.name,n.sort)∈V)(h3:n.Sm)(hf:Wa n.op n.sort n.name n.num=true)(ha:Yz n.op n.kids=true)(hk:n.kids=0)(hs:Wz n.op n.sort 0 []=s)(hp:0 < s)(hd:0 < d)(hN:0 < N):GT s d N V [n]:=by
 cases d with
 |zero=>omega
 |succ d=>
  refine⟨⟨.mk n.op n.sort n.name n.num [],fun r=>?_,?_⟩,?_,by simp;omega,hp⟩
  .rw [hk]at ha;simp[Zg,hf,hk,ha,many]
  .simp [Zl,Ym,Vd,hs]
  .intro m hm;simp only[List.mem_singleton]at hm;subst hm;exact⟨hn,h5,h4,h3⟩
theorem GT.ne {s:Int}{d N:Nat}{V:List (Y9×Int)}{t:List Nd}(h:GT s d N V t):t≠[]:=by
 intro e;obtain⟨tr,h1,h2⟩:=h.tree;have:=h1 [];rw[e]at this;cases d<;>simp[Zg]at this
def Zoj (V:List (Y9×Int)):Prop:=∀v∈V,R8 v.1=true/\v.1.length<=2^19/\1<=v.2/\v.2<=4
theorem GT.var {s:Int}{x:Y9}{d N:Nat}{V:List (Y9×Int)}(hV:Zoj V)(h:(x,s)∈V)(hd:0 < d)(hN:0 < N):GT s d N V [⟨4,s,x,[],0⟩]:=by
 obtain⟨h1,h2,h3,h4⟩:=hV _ h;simp only at h1 h2 h3 h4;refine GT.leaf ⟨by simpa using h2,by simp⟩ (by simp) (fun _=>h) (fun e=>by simp at e) ?_ (by simp[Yz]) rfl (by simp[Wz]) (by omega) hd hN;simp[Wa,h1,Zcr,h3,h4]
theorem Zw8.ok {n:Nat}{s:Y9}(h:Zw8 n s):Ul s=true/\s.length<=n:=by
 obtain⟨r,h1,h2,rfl,h3⟩:=h;exact⟨by simp[Ul,Zby h1,Rl,h2],h3⟩
theorem Zz2.ok {n:Nat}{s:Y9}(h:Zz2 n s):Zae s=true/\s.length<=n:=by
 obtain⟨r,h1,rfl,h3,_⟩:=h;exact⟨Zby h1,h3⟩
theorem Zz2.den {n:Nat}{s:Y9}(h:Zz2 n s):(Zbq s).den < 1000000000:=by
 obtain⟨r,h1,rfl,_,h3⟩:=h;rw[Rl];exact h3
theorem Zed {s:Y9}(h:Ul s=true):(Zbq s).den < 1000000000:=by
 unfold Ul at h;simp only[Bool.and_eq_true,beq_iff_eq]at h;omega
theorem GT.num {s:Int}{x:Y9}{d N:Nat}{V:List (Y9×Int)}(hs:s=2\/s=3)(h:Zae x=true)(h2:s=2->Ul x=true)(h3:(Zbq x).den < 1000000000)(hl:x.length<=2^19)(hd:0 < d)(hN:0 < N):GT s d N V [⟨3,s,[],x,0⟩]:=by
 refine GT.leaf ⟨by simp,by simpa using hl⟩ (by simp) (by simp) (fun _=>h3) ?_ (by simp[Yz]) rfl (by simp[Wz]) (by omega) hd hN;rcases hs with rfl | rfl
 .simp [Wa,h2 rfl]
 .simp [Wa,h]
theorem GT.bool {o:Int}{d N:Nat}{V:List (Y9×Int)}(ho:o=1\/o=2)(hd:0 < d)(hN:0 < N):GT 1 d N V [⟨o,0,[],[],0⟩]:=by
 refine GT.leaf ⟨by simp,by simp⟩ (by simp;omega) (by simp;omega) (fun e=>by simp at e;omega) ?_ ?_ rfl ?_ (by omega) hd hN
 .rcases ho with rfl | rfl<;>simp[Wa]
 .rcases ho with rfl | rfl<;>simp[Yz]
 .rcases ho with rfl | rfl<;>simp[Wz]
abbrev opN (o:Int):Nd:=⟨o,0,[],[],0⟩
theorem V4 (o:Int):(opN o).Short:=⟨by simp,by simp⟩
theorem W9 {o:Int}(h1:1<=o)(h2:o<=20)(h3:o≠3)(h4:o≠4)(h5:o≠5)(h16:o≠16)(h17:o≠17):Wa (opN o).op (opN o).sort (opN o).name (opN o).num=true:=by
 simp[Wa, *]
section
variable {s:Int}{d N:Nat}{V:List (Y9×Int)}{t u v:List Nd}
theorem GT.not (h:GT 1 d N V t):GT 1 (d+1) (N+1) V (Xh (opN 6) [t]):=
 GT.join (.cons h .nil) (V4 _) (by simp) (by simp) (W9 (by simp) (by simp) (by simp) (by simp) (by simp) (by simp) (by simp)) (by simp[Yz]) (by simp) (fun f _=>by simp[Wz,W7]) (by omega) (by simp)
theorem GT.const (h:GT 2 d N V t):GT 4 (d+1) (N+1) V (Xh (opN 20) [t]):=
 GT.join (.cons h .nil) (V4 _) (by simp) (by simp) (W9 (by simp) (by simp) (by simp) (by simp) (by simp) (by simp) (by simp)) (by simp[Yz]) (by simp) (fun f _=>by simp[Wz,W7]) (by omega) (by simp)
theorem GT.imp (h:GT 1 d N V t)(k:GT 1 d N V u):GT 1 (d+1) (2*N+1) V (Xh (opN 9) [t,u]):=
 GT.join (.cons h (.cons k .nil)) (V4 _) (by simp) (by simp) (W9 (by simp) (by simp) (by simp) (by simp) (by simp) (by simp) (by simp)) (by simp[Yz]) (by simp) (fun f _=>by simp[Wz,W7]) (by omega) (by simp)
theorem GT.eq (h:GT s d N V t)(k:GT s d N V u):GT 1 (d+1) (2*N+1) V (Xh (opN 11) [t,u]):=
 GT.join (.cons h (.cons k .nil)) (V4 _) (by simp) (by simp) (W9 (by simp) (by simp) (by simp) (by simp) (by simp) (by simp) (by simp)) (by simp[Yz]) (by simp) (fun f _=>by simp[Wz,W7,atI]) (by omega) (by simp)
theorem GT.cmp {o:Int}(ho:o=12\/o=13)(hs:s=2\/s=3)(h:GT s d N V t)(k:GT s d N V u):GT 1 (d+1) (2*N+1) V (Xh (opN o) [t,u]):=by
 rcases ho with rfl | rfl<;>
 exact GT.join (.cons h (.cons k .nil)) (V4 _) (by simp) (by simp) (W9 (by simp) (by simp) (by simp) (by simp) (by simp) (by simp) (by simp)) (by simp[Yz]) (by simp) (fun f _=>by rcases hs with rfl | rfl<;>simp[Wz,W7,atI,Vp]) (by omega) (by simp)
theorem GT.sel (h:GT 4 d N V t)(k:GT 2 d N V u):GT 2 (d+1) (2*N+1) V (Xh (opN 18) [t,u]):=
 GT.join (.cons h (.cons k .nil)) (V4 _) (by simp) (by simp) (W9 (by simp) (by simp) (by simp) (by simp) (by simp) (by simp) (by simp)) (by simp[Yz]) (by simp) (fun f _=>by simp[Wz,W7,atI]) (by omega) (by simp)
theorem GT.sto (h:GT 4 d N V t)(k:GT 2 d N V u)(l:GT 2 d N V v):GT 4 (d+1) (3*N+1) V (Xh (opN 19) [t,u,v]):=
 GT.join (.cons h (.cons k (.cons l .nil))) (V4 _) (by simp) (by simp) (W9 (by simp) (by simp) (by simp) (by simp) (by simp) (by simp) (by simp)) (by simp[Yz]) (by simp) (fun f _=>by simp[Wz,W7,atI]) (by omega) (by simp)
theorem GT.ite (h:GT 1 d N V t)(k:GT s d N V u)(l:GT s d N V v):GT s (d+1) (3*N+1) V (Xh (opN 10) [t,u,v]):=
 GT.join (.cons h (.cons k (.cons l .nil))) (V4 _) (by simp) (by simp) (W9 (by simp) (by simp) (by simp) (by simp) (by simp) (by simp) (by simp)) (by simp[Yz]) (by simp) (fun f _=>by simp[Wz,W7,atI]) k.pos (by simp)
theorem GT.mul {n:Nd}(hn:n.op=3)(hs:s=2\/s=3)(h:GT s d N V [n])(k:GT s d N V u):GT s (d+1) (2*N+1) V (Xh (opN 15) [[n],u]):=
 GT.join (.cons h (.cons k .nil)) (V4 _) (by simp) (by simp) (W9 (by simp) (by simp) (by simp) (by simp) (by simp) (by simp) (by simp)) (by simp[Yz]) (by simp) (fun f hf=>by
  have:=hf n [] [u] rfl;rw[hn]at this;rcases hs with rfl | rfl<;>simp[Wz,W7,atI,this]) k.pos (by simp)
theorem GT.div {o:Int}{x:Y9}(ho:o=16\/o=17)(hx:Ul x=true)(hp:0 < Zdx x)(hl:x.length<=2^19)(h:GT 2 d N V t):GT 2 (d+1) (N+1) V (Xh ⟨o,0,[],x,0⟩ [t]):=by
 rcases ho with rfl | rfl<;>
 exact GT.join (.cons h .nil) ⟨by simp,by simpa using hl⟩ (by simp) (by simp) (by simp[Wa,hx,hp]) (by simp[Yz]) (by simp) (fun f _=>by simp[Wz,W7]) (by omega) (by simp)
theorem GTs.rep {ks:List (List Nd)}(h:∀t∈ks,GT s d N V t):GTs d N V (List.replicate ks.length s) ks:=by
 induction ks with
 |nil=>exact .nil
 |cons t r ih=>exact .cons (h t (by simp)) (ih fun t ht=>h t (by simp[ht]))
theorem GT.add {ks:List (List Nd)}(hs:s=2\/s=3)(h:∀t∈ks,GT s d N V t)(hk:0 < ks.length):GT s (d+1) (ks.length*N+1) V (Xh (opN 14) ks):=by
 refine GT.join (GTs.rep h) (V4 _) (by simp) (by simp) (W9 (by simp) (by simp) (by simp) (by simp) (by simp) (by simp) (by simp)) (by simp[Yz];omega) (by simp) (fun f _=>?_) (by omega) (Nat.le_refl _);obtain⟨k,hk⟩:∃k,ks.length=k+1:=⟨ks.length - 1,by omega⟩
 rw[hk];rcases hs with rfl | rfl<;>simp[Wz,W7,atI,Vp,List.replicate_succ]
theorem GT.log {o:Int}{ks:List (List Nd)}(ho:o=7\/o=8)(h:∀t∈ks,GT 1 d N V t):GT 1 (d+1) (ks.length*N+1) V (Xh (opN o) ks):=by
 rcases ho with rfl | rfl<;>
 exact GT.join (GTs.rep h) (V4 _) (by simp) (by simp) (W9 (by simp) (by simp) (by simp) (by simp) (by simp) (by simp) (by simp)) (by simp[Yz]) (by simp) (fun f _=>by simp[Wz,W7]) (by omega) (Nat.le_refl _)
theorem Z2r {k:Int}(h:0 < k):Zdx (Zca k)=1:=by
 rw[<- Zea];simp only[Zdx,Zby (Zyo k),Rl];have h1:(Rt.int k).num≠0:=by simp[Rt.int];omega
 have h2:(Rt.int k).neg=false:=by simp[Rt.int];omega
 simp[h1,h2]
end
theorem Zdt {t:List Nd}(h5:∀n∈t,n.op≠5):∀u∈Ya t,∃n∈t,n.op=4/\u=⟨false,n.name,[],n.sort⟩:=by
 induction t with
 |nil=>simp[Ya]
 |cons n r ih=>
  intro u hu;simp only[Ya,List.mem_append]at hu;rcases hu with hu | hu
  .unfold Xl at hu;split at hu
   .rename_i h4;simp only[List.mem_singleton]at hu;exact⟨n,by simp,h4,hu⟩
   .rw [if_neg (h5 n (by simp))]at hu;cases hu
  .obtain ⟨m,h1,h2⟩:=ih (fun m hm=>h5 m (by simp[hm])) u hu;exact⟨m,by simp[h1],h2⟩
def Q3 (V:List (Y9×Int)):Prop:=∀a∈V,∀b∈V,a.1=b.1->a=b
theorem GT.clean {s:Int}{d N:Nat}{V:List (Y9×Int)}{t:List Nd}(h:GT s d N V t)(hV:Q3 V):Yv (Ya t)=true:=by
 unfold Yv;rw[decide_eq_true_eq];intro u hu v hv he;have h5:∀n∈t,n.op≠5:=fun n hn=>(h.node n hn).2.1
 obtain⟨n,n1,n2,rfl⟩:=Zdt h5 u hu;obtain⟨m,m1,m2,rfl⟩:=Zdt h5 v hv;have:=hV _ ((h.node n n1).2.2.1 n2) _ ((h.node m m1).2.2.1 m2) he;simp only[Prod.mk.injEq]at this;simp[this.1,this.2]
theorem GT.sort {s:Int}{d N:Nat}{V:List (Y9×Int)}{t:List Nd}(h:GT s d N V t)(hV:Q3 V)(hd:d<=257)(hN:N<=20000):sortL t=s:=by
 obtain⟨tr,h1,h2⟩:=h.tree;have h3:=Sw hd (h1 []);rw[List.append_nil]at h3;unfold sortL;rw[if_neg (by have:=h.len;omega),h3];simp only[h.clean hV,if_true,h2]
theorem GT.short {s:Int}{d N:Nat}{V:List (Y9×Int)}{t:List Nd}(h:GT s d N V t):∀n∈t,n.Short:=fun n hn=>(h.node n hn).1
theorem GT.vars {s:Int}{d N:Nat}{V W:List (Y9×Int)}{t:List Nd}(h:GT s d N V t)(hVW:∀v∈V,v∈W):GT s d N W t:=⟨h.tree,fun n hn=>⟨(h.node n hn).1,(h.node n hn).2.1,fun h4=>hVW _ ((h.node n hn).2.2.1 h4),(h.node n hn).2.2.2⟩,h.len,h.pos⟩
theorem Zfc (a m n:Nat):(a+m).blt (a+n)=m.blt n:=by
 rw[Bool.eq_iff_iff,Nat.blt_eq,Nat.blt_eq];omega
theorem Zafu (num k v:Y9)(hl:num.length<=2^19)(Q1:k.length<=2^19)(hvl:v.length<=2^19)(hn:Ul num=true)(hk:Ul k=true)(hv:Ul v=true):
  Xq vE 118 [Zau 4 false num [] [],.str k,.str v] (.tuple [Zau 4 false num (if v=num then [] else [k]) (if v=num then [] else [v]),.int .i64 0]):=by
 have h79:=Zst num [] [] hl hn (Or.inl ⟨rfl,rfl⟩);have hK:=Zc7 k Q1;have hV:=Zc7 v hvl;rw[hk]at hK;rw[hv]at hV;have hb:∀m,below m 4 (.tuple [Zau 4 false num (if v=num then [] else [k]) (if v=num then [] else [v]),.int .i64 0])=true:=fun m=>by simp
 clear hn hk hv;simp only[Zau,List.map_nil,Wn]at h79;intro K H;refine Wc Tryz.func118 ?_
 (refine Zm ?_;repeat'(first|(refine Zi fun _=>?_;try simp(disch:=first|exact Zq|fail)[*,Yb,Tryz.f118,Wn])|refine Ye ?_|refine Zx ?_|refine Zn ?_ ?_))
 generalize hv3:H.stamp (H.next+3)=v3;generalize hv8:H.stamp (H.next+8)=v8;generalize hv6:H.stamp (H.next+6)=v6
 refine Zv [1,2,3,6,8] (fun n sl h=>h.get (H.next+3)=some (v3,.cells [.int .i64 4,.bool false,.str num,.nils,.nils])/\h.get (H.next+6)=some (v6,.cells [.int .i64 0,.bool false,.str [],.nils,.nils])/\(n=1/\sl 10=some (.int .i64 0)/\sl 9=some (.bool false)/\h.get (H.next+8)=some (v8,.cells [.int .i64 4,.bool false,.str num,.nils,.nils]) \/
  n=0/\sl 10=some (.int .i64 1)/\sl 9=some (.bool true)/\(v=num/\h.get (H.next+8)=some (v8,.cells [.int .i64 4,.bool false,.str num,.nils,.nils])\/v≠num/\∃s69 s74,h.get (H.next+8)=some (v8,.cells [.int .i64 4,.bool false,.str num,.own (H.next+69) s69 9 0 1,.own (H.next+74) s74 9 0 1])/\h.get (H.next+69)=some (s69,.row 9 true [.str k])/\h.get (H.next+74)=some (s74,.row 9 true [.str v])))) 1 rfl ⟨by simp[*],by simp[*],Or.inl ⟨rfl,by simp,by simp,by simp[*]⟩⟩ ?_
 rintro n sl h hf ⟨h3,h6,⟨rfl,h10,h9,h8⟩ | ⟨rfl,h10,h9,⟨rfl,h8⟩ | ⟨hvn,s69,s74,h8,h69,h74⟩⟩⟩
 .simp at hf;by_cases hvn:v=num
  . (simp(disch:=first|exact Zq|fail)[*,Yb,Wn])
  . (simp(disch:=first|exact Zq|fail)[*,Yb])
    refine Zcb (fun hh=>absurd (by simpa using hh) hvn) (fun _=>?_);refine Yw false false [] [66,71] [H.next+8] [69,74] false (by decide+kernel) ?_
    (refine Zm ?_;repeat'(first|(refine Zi fun _=>?_;try simp(disch:=first|exact Zq|fail)[*,Yb,Zfc])|refine Ye ?_|refine Zx ?_|refine Zn ?_ ?_))
    all_goals exact absurd ‹Nat.blt 8 69=false› (by decide)
 .simp at hf
  (refine Zm ?_;repeat'(first|(refine Zi fun _=>?_;try simp(disch:=first|exact Zq|fail)[*,Yb,Wn])|refine Ye ?_|refine Zx ?_|refine Zn ?_ ?_))
 .simp at hf
  (refine Zm ?_;repeat'(first|(refine Zi fun _=>?_;try simp(disch:=first|exact Zq|fail)[*,Yb])|refine Ye ?_|refine Zx ?_|refine Zn ?_ ?_))
  exact⟨rfl,rfl⟩
abbrev TL (t:List Nd):PV:=.lst 58 (t.map Zo)
theorem Zok {t:List Nd}(h:t≠[]):L 58 true (t.map Zo)=TL t:=by
 cases t with
 |nil=>exact absurd rfl h
 |cons=>rfl
theorem Zcy (n:Nd)(ts:List (List Nd))(hk:ts.length < 2^20)(hl:ts.flatten.length < 2^29):Xq vE 47 [Zo n,L 23 true (ts.map TL)] (TL (Xh n ts)):=by
 have h:=Zal3 true n (ts.map fun t=>(false,t)) (by simpa using hk) (by simpa[List.map_map,Function.comp_def]using hl);have e1:(ts.map fun t=>(false,t)).map (·.2)=ts:=by simp[List.map_map,Function.comp_def]
 have e2:(ts.map fun t=>(false,t)).map encK=ts.map TL:=by
  rw[List.map_map];rfl
 rw[e1,e2,Zok (by simp[Xh])]at h;exact h
theorem Zgv (s:Int)(x:Y9):Xq vE 35 [.int .i64 s,.str x] (L 58 true ([(⟨3,s,[],x,0⟩:Nd)].map Zo)):=by
 intro K H;refine Wc Tryz.func35 ?_
 (refine Zm ?_;repeat'(first|(refine Zi fun _=>?_;try simp(disch:=first|exact Zw|fail)[*,Yd,Tryz.f35,Zo])|refine Zx ?_|refine Zn ?_ ?_))
theorem Z2b (b:Bool):Xq vE 117 [.bool b] (L 58 true ([(⟨if b then 1 else 2,0,[],[],0⟩:Nd)].map Zo)):=by
 cases b
 .intro K H;refine Wc Tryz.func117 ?_
  (refine Zm ?_;repeat'(first|(refine Zi fun _=>?_;try simp(disch:=first|exact Zw|fail)[*,Yd,Tryz.f117,Zo])|refine Zx ?_|refine Zn ?_ ?_))
 .intro K H;refine Wc Tryz.func117 ?_
  (refine Zm ?_;repeat'(first|(refine Zi fun _=>?_;try simp(disch:=first|exact Zw|fail)[*,Yd,Tryz.f117,Zo])|refine Zx ?_|refine Zn ?_ ?_))
inductive SmallV:Int->Bool->Y9->List Y9->List Y9->Prop
 |bool (b:Bool):SmallV 1 b [] [] []
 |num {s:Int} {x:Y9} (hs:s=2\/s=3) (h:Ul x=true) (hl:x.length<=40):SmallV s false x [] []
 |arr {x:Y9} (h:Ul x=true) (hl:x.length<=40):SmallV 4 false x [] []
 |one {x k v:Y9} (h:Ul x=true) (hl:x.length<=40) (hk:Ul k=true) (Q1:k.length<=40) (hv:Ul v=true) (hvl:v.length<=40) (Yp:v≠x):SmallV 4 false x [k] [v]
theorem Qb (k:Int):Ul (Zca k)=true:=by
 rw[<- Zea];simp[Ul,Zby (Zyo k),Rl];rfl
theorem Zec {k:Int}(h:k.natAbs < 10):(Zca k).length<=40:=by
 have:=Qe (k:=1) (by omega) (by simpa using h);unfold Zca;split<;>simp<;>omega
set_option maxHeartbeats 2000000 in
theorem Zaly {s:Int}{bo:Bool}{num:Y9}{ks vs:List Y9}(h:SmallV s bo num ks vs):∃t,GT s 3 7 [] t/\Xq vE 70 [Zau s bo num ks vs] (.tuple [L 58 true (t.map Zo),.int .i64 0]):=by
 cases h with
 |bool=>
  refine⟨[⟨if bo then 1 else 2,0,[],[],0⟩],GT.bool (by cases bo<;>simp) (by omega) (by omega),?_⟩;have h79:=Z1x 1 bo [] (by simp) (.inl ⟨rfl,rfl⟩);have h117:=Z2b bo;simp only[Zau,List.map_nil,List.map_cons,Wn,Xe]at *;intro K H;refine Wc Tryz.func70 ?_
  (refine Zm ?_;repeat'(first|(refine Zi fun _=>?_;try simp(disch:=first|exact Zw|fail)[*,Yd,Tryz.f70])|refine Zx ?_|refine Zn ?_ ?_))
 |num hs h hl=>
  refine⟨[⟨3,s,[],num,0⟩],GT.num hs (by unfold Ul at h;simp at h;exact h.1) (fun _=>h) (Zed h) (by omega) (by omega) (by omega),?_⟩;have hr:Zae num=true:=by unfold Ul at h;simp at h;exact h.1
  have h79:=Z1x s false num (by omega) (by rcases hs with rfl | rfl<;>simp[h,hr]);have h35:=Zgv s num;simp only[Zau,List.map_nil,List.map_cons,Wn,Xe]at *;clear hr h;rcases hs with rfl | rfl
  .intro K H;refine Wc Tryz.func70 ?_
   (refine Zm ?_;repeat'(first|(refine Zi fun _=>?_;try simp(disch:=first|exact Zw|fail)[*,Yd,Tryz.f70])|refine Zx ?_|refine Zn ?_ ?_))
  .intro K H;refine Wc Tryz.func70 ?_
   (refine Zm ?_;repeat'(first|(refine Zi fun _=>?_;try simp(disch:=first|exact Zw|fail)[*,Yd,Tryz.f70])|refine Zx ?_|refine Zn ?_ ?_))
 |arr h hl=>
  have hr:Zae num=true:=by unfold Ul at h;simp at h;exact h.1
  have g:=(GT.const (GT.num (d:=1) (N:=1) (V:=[]) (x:=num) (.inl rfl) hr (fun _=>h) (Zed h) (by omega) (by omega) (by omega))).mono (d':=3) (N':=7) (by omega) (by omega);refine⟨_,g,?_⟩;have h79:=Zst num [] [] (by omega) h (.inl ⟨rfl,rfl⟩);have h35:=Zgv 2 num;have h47:=Zcy (opN 20) [[⟨3,2,[],num,0⟩]] (by simp) (by simp);have h59:=Zsu true _ g.short (Nat.lt_of_le_of_lt g.len (by omega));rw[g.sort (by simp[Q3]) (by omega) (by omega),Zok g.ne]at h59;rw[Zok g.ne];have hrl:=g.len;clear g h hr;generalize (Xh (opN 20) [[(⟨3,2,[],num,0⟩:Nd)]])=r at *;have hql:(r.map Zo).length=r.length:=by simp
  simp only[TL]at *;generalize r.map Zo=q at *;simp only[TL,Zo,opN,Zau,List.map_nil,List.map_cons,Wn,Xe]at *;intro K H;refine Wc Tryz.func70 ?_
  (refine Zm ?_;repeat'(first|(refine Zi fun _=>?_;try simp(disch:=first|exact Zw|fail)[*,Yd,Tryz.f70])|refine Zx ?_|refine Zn ?_ ?_))
  refine Zv [1] (fun n sl h=>n=0/\sl 4=some (.lst 58 q)/\sl 5=some (.int .i64 0)/\h.get (H.next+1)=some (H.stamp (H.next+1),.cells [.int .i64 4,.bool false,.str num,.nils,.nils])) 0 rfl ⟨rfl,by simp,by simp,by simp⟩ ?_;rintro n sl h hf ⟨rfl,h4,h5,hg⟩;simp at hf
  (refine Zm ?_;repeat'(first|(refine Zi fun _=>?_;try simp(disch:=first|exact Zw|fail)[*,Yd])|refine Zx ?_|refine Zn ?_ ?_))
 |one h hl hk Q1 hv hvl Yp=>
  rename_i k v;have hr:∀ {x:Y9},Ul x=true->Zae x=true:=fun h=>by unfold Ul at h;simp at h;exact h.1
  have g0:=(GT.const (GT.num (d:=1) (N:=1) (V:=[]) (x:=num) (.inl rfl) (hr h) (fun _=>h) (Zed h) (by omega) (by omega) (by omega)))
  have g:=GT.sto g0 (GT.num (x:=k) (.inl rfl) (hr hk) (fun _=>hk) (Zed hk) (by omega) (by omega) (by omega)) (GT.num (x:=v) (.inl rfl) (hr hv) (fun _=>hv) (Zed hv) (by omega) (by omega) (by omega));refine⟨_,g,?_⟩;have h79:=Zst num [k] [v] (by omega) h (.inr ⟨k,v,rfl,rfl,hk,hv,Yp,by omega,by omega⟩);have h35:=Zgv 2 num;have h35k:=Zgv 2 k;have h35v:=Zgv 2 v;have h47:=Zcy (opN 20) [[⟨3,2,[],num,0⟩]] (by simp) (by simp);have hl0:=g0.len;generalize (Xh (opN 20) [[(⟨3,2,[],num,0⟩:Nd)]])=r0 at *;have h47b:=Zcy (opN 19) [r0,[⟨3,2,[],k,0⟩],[⟨3,2,[],v,0⟩]] (by simp) (by simp;omega);have h59:=Zsu true _ g.short (Nat.lt_of_le_of_lt g.len (by omega));rw[g.sort (by simp[Q3]) (by omega) (by omega),Zok g.ne]at h59;rw[Zok g.ne];have hrl:=g.len;clear g g0 h hr hk hv;generalize (Xh (opN 19) [r0,[(⟨3,2,[],k,0⟩:Nd)],[⟨3,2,[],v,0⟩]])=r at *;have hql:(r.map Zo).length=r.length:=by simp
  have hql0:(r0.map Zo).length=r0.length:=by simp
  simp only[TL,List.map_cons,List.map_nil]at *;generalize r.map Zo=q at *;generalize r0.map Zo=q0 at *;simp only[TL,Zo,opN,Zau,List.map_nil,List.map_cons,Wn,Xe]at *;intro K H;refine Wc Tryz.func70 ?_
  (refine Zm ?_;repeat'(first|(refine Zi fun _=>?_;try simp(disch:=first|exact Zw|fail)[*,Yd,Tryz.f70])|refine Zx ?_|refine Zn ?_ ?_))
  refine Zv [1] (fun n sl h=>(H.next+1).blt h.next=true/\h.get (H.next+1)=some (H.stamp (H.next+1),.cells [.int .i64 4,.bool false,.str num,.lst 9 [.str k],.lst 9 [.str v]])/\(n=1/\sl 4=some (.lst 58 q0)/\sl 5=some (.int .i64 0)\/n=0/\sl 4=some (.lst 58 q)/\sl 5=some (.int .i64 1))) 1 rfl ⟨by simp[Zfc],by simp,Or.inl ⟨rfl,by simp,by simp⟩⟩ ?_;rintro n sl h hf ⟨Sj,hg,⟨rfl,h4,h5⟩ | ⟨rfl,h4,h5⟩⟩
  .simp at hf
   (refine Zm ?_;repeat'(first|(refine Zi fun _=>?_;try simp(disch:=first|exact Zw|fail)[*,Yd])|refine Zx ?_|refine Zn ?_ ?_))
   refine Yw false false [45,46,51,52] [43,49] [H.next+1] [47,53,55] true (by decide +kernel) ?_
   (refine Zm ?_;repeat'(first|(refine Zi fun _=>?_;try simp(disch:=first|exact Zw|fail)[*,Yd,reach,refsO,Zfc])|refine Zx ?_|refine Zn ?_ ?_))
  .simp at hf
   (refine Zm ?_;repeat'(first|(refine Zi fun _=>?_;try simp(disch:=first|exact Zw|fail)[*,Yd])|refine Zx ?_|refine Zn ?_ ?_))
section
variable {b:Bool}{xs:List Int}{i:Nat}
set_option maxHeartbeats 1000000 in
theorem Zak5 (hl:xs.length<=400)(hi:i<=xs.length)(s:Int)(hs:1<=s)(hs4:s<=4):∃bo num ks vs i',i<=i'/\i'<=xs.length/\SmallV s bo num ks vs/\Gen 71 [.int .i64 s] b xs i (Zau s bo num ks vs) i':=by
 by_cases h1:s=1
 .subst h1;obtain⟨v1,i1,hv1,Ro,Sk,g1⟩:=Yy (b:=b) hl hi 2 2 rfl (by omega) (by omega);refine⟨decide (v1=1),[],[],[],i1,Ro,Sk,.bool _,?_⟩;intro K H p Zc Zu hlt Zk;have W5:=Yg hlt;refine Wp Tryz.func71 Zu hlt Zk ?_
  (refine Zm ?_;repeat'(first|(refine Zi fun _=>?_;try simp(disch:=first|exact Zw|fail)[*,Yd,Tryz.f71,Ze hlt])|refine Zx ?_|refine Zn ?_ ?_))
  rw[Bool.eq_iff_iff];simp;omega
 .by_cases h4:s=4
  .subst h4;obtain⟨v1,i1,hv1,Ro,Sk,g1⟩:=Yy (b:=b) hl hi 3 3 rfl (by omega) (by omega);obtain⟨v2,i2,hv2,Qg,hb2,g2⟩:=Yy (b:=b) hl Sk 3 3 rfl (by omega) (by omega);obtain⟨v3,i3,hv3,ha3,hb3,g3⟩:=Yy (b:=b) hl hb2 3 3 rfl (by omega) (by omega);have a1:=Rz (v1:Int) (by omega) (by omega);have a2:=Rz (v2:Int) (by omega) (by omega);have a3:=Rz (v3:Int) (by omega) (by omega);have l1:=Zec (k:=(v1:Int)) (by omega);have l2:=Zec (k:=(v2:Int)) (by omega);have l3:=Zec (k:=(v3:Int)) (by omega);have h118:=Zafu (Zca v1) (Zca v2) (Zca v3) (by omega) (by omega) (by omega) (Qb _) (Qb _) (Qb _);generalize hx1:Zca (v1:Int)=x1 at *;generalize hx2:Zca (v2:Int)=x2 at *;generalize hx3:Zca (v3:Int)=x3 at *;have b1:Ul x1=true:=by rw[<- hx1];exact Qb _
   have b2:Ul x2=true:=by rw[<- hx2];exact Qb _
   have b3:Ul x3=true:=by rw[<- hx3];exact Qb _
   by_cases he:x3=x1
   .subst he;refine⟨false,x3,[],[],i3,by omega,hb3,.arr b1 l1,?_⟩;simp only[if_true]at h118;clear b1 b2 b3 hx1 hx2 hx3;intro K H p Zc Zu hlt Zk;have W5:=Yg hlt;refine Wp Tryz.func71 Zu hlt Zk ?_;simp only[Zau,List.map_nil,List.map_cons,Wn,Xe]at *
    (refine Zm ?_;repeat'(first|(refine Zi fun _=>?_;try simp(disch:=first|exact Zw|fail)[*,Yd,Tryz.f71,Ze hlt])|refine Zx ?_|refine Zn ?_ ?_))
    refine Yw false false [] [22] [H.next+5] [24,25,27,28,29] false (by decide+kernel) ?_;have hpe:∀d,(H.next+d==p)=false:=fun d=>by simp[Ze hlt]
    (refine Zm ?_;repeat'(first|(refine Zi fun _=>?_;try simp(disch:=first|exact Zw|fail)[*,Yd,Ze hlt,reach,refsO,Zfc])|refine Zx ?_|refine Zn ?_ ?_))
    exact absurd ‹Nat.blt 5 39=false› (by decide)
   .refine ⟨false,x1,[x2],[x3],i3,by omega,hb3,.one b1 l1 b2 l2 b3 l3 he,?_⟩;simp only[if_neg he]at h118;clear b1 b2 b3 hx1 hx2 hx3;intro K H p Zc Zu hlt Zk;have W5:=Yg hlt;refine Wp Tryz.func71 Zu hlt Zk ?_;simp only[Zau,List.map_nil,List.map_cons,Wn,Xe]at *
    (refine Zm ?_;repeat'(first|(refine Zi fun _=>?_;try simp(disch:=first|exact Zw|fail)[*,Yd,Tryz.f71,Ze hlt])|refine Zx ?_|refine Zn ?_ ?_))
    refine Yw false false [] [22] [H.next+5] [24,25,27,28,29] false (by decide+kernel) ?_;have hpe:∀d,(H.next+d==p)=false:=fun d=>by simp[Ze hlt]
    (refine Zm ?_;repeat'(first|(refine Zi fun _=>?_;try simp(disch:=first|exact Zw|fail)[*,Yd,Ze hlt,reach,refsO,Zfc])|refine Zx ?_|refine Zn ?_ ?_))
    exact absurd ‹Nat.blt 5 39=false› (by decide)
  .obtain ⟨v1,i1,hv1,Ro,Sk,g1⟩:=Yy (b:=b) hl hi 6 6 rfl (by omega) (by omega);have a1:=Rz (v1 - 2:Int) (by omega) (by omega);refine⟨false,Zca (v1 - 2),[],[],i1,Ro,Sk,.num (by omega) (Qb _) (Zec (by omega)),?_⟩;intro K H p Zc Zu hlt Zk;have W5:=Yg hlt;refine Wp Tryz.func71 Zu hlt Zk ?_
   (refine Zm ?_;repeat'(first|(refine Zi fun _=>?_;try simp(disch:=first|exact Zw|fail)[*,Yd,Tryz.f71,Ze hlt])|refine Zx ?_|refine Zn ?_ ?_))
end
theorem Zdb (o:Int)(ts:List (List Nd))(hk:ts.length < 2^20)(hl:ts.flatten.length < 2^29):Xq vE 74 [.int .i64 o,L 23 true (ts.map TL)] (TL (Xh (opN o) ts)):=by
 have h47:=Zcy (opN o) ts hk hl;generalize Xh (opN o) ts=r at *;intro K H;refine Wc Tryz.func74 ?_
 (refine Zm ?_;repeat'(first|(refine Zi fun _=>?_;try simp(disch:=first|exact Zq|fail)[*,Yb,Tryz.f74,Zo])|refine Ye ?_|refine Zx ?_|refine Zn ?_ ?_))
abbrev Zik (v:Y9×Int):PV:=.agg [.str v.1,.int .i64 v.2]
theorem Zwf {α:Type}(q:α->Bool)(l:List α)(i:Nat)(h:i < l.length):(l.take (i+1)).filter q=(l.take i).filter q++(if q l[i] then [l[i]] else []):=by
 rw[List.take_add_one,List.getElem?_eq_getElem h,List.filter_append];congr 1;simp only[Option.toList,List.filter_cons,List.filter_nil]
section
variable {b:Bool}{xs:List Int}{i:Nat}
set_option maxHeartbeats 2000000 in
theorem Zsb (hl:xs.length<=400)(hi:i<=xs.length)(s:Int)(b2:Bool)(V:List (Y9×Int))(hV:∃v∈V,v.2=s)(hVl:V.length < 2^20):∃x i',i<=i'/\i'<=xs.length/\(x,s)∈V/\Gen 72 [.int .i64 s,L 69 b2 (V.map Zik)] b xs i (TL [⟨4,s,x,[],0⟩]) i':=by
 obtain⟨v0,hv0,hs0⟩:=hV;have hm:v0∈V.filter (fun v=>v.2==s):=by simp[hv0,hs0]
 have Tz:0 < (V.filter (fun v=>v.2==s)).length:=List.length_pos_iff.2 (List.ne_nil_of_mem hm);have hle:(V.filter (fun v=>v.2==s)).length<=V.length:=List.length_filter_le _ _;obtain⟨k,i1,hk,Ro,Sk,g1⟩:=Yy (b:=b) hl hi (V.filter (fun v=>v.2==s)).length (V.filter (fun v=>v.2==s)).length rfl Tz (by omega);have Uv:(V.filter (fun v=>v.2==s))[k]∈V.filter (fun v=>v.2==s):=List.getElem_mem hk;generalize hF:V.filter (fun v=>v.2==s)=F at *;generalize hv:F[k]=v at *;have hv1:v∈V/\v.2=s:=by rw[<- hF]at Uv;simpa using Uv
 refine⟨v.1,i1,Ro,Sk,by rw[<- hv1.2];exact hv1.1,?_⟩;clear hm Uv v0 hv0 hs0;intro K H p Zc Zu hlt Zk;have W5:=Yg hlt;refine Wp Tryz.func72 Zu hlt Zk ?_
 (refine Zm ?_;repeat'(first|(refine Zi fun _=>?_;try simp(disch:=first|exact Zq|fail)[*,Yb,Tryz.f72])|refine Ye ?_|refine Zx ?_|refine Zn ?_ ?_))
 refine Zv [0,1,2] (fun n sl h=>∃(j:Nat) (w:PV),n=V.length - j/\j<=V.length/\sl 8=some (.int .i64 j)/\sl 7=some w/\Acc [31] ⟨H.next,H.next,[p]⟩ h 69 w (((V.take j).filter (fun v=>v.2==s)).map Zik)/\h.get p=some (Zc,chO b xs i)/\p < h.next) V.length rfl ⟨0,.nils,by simp,by simp,by simp,by simp,Acc.nil,by simp[*],by simp;omega⟩ ?_;rintro n sl h hf ⟨j,w,hn',hj,h8,h7,hA,hp,hpx⟩;simp at hf;by_cases Zng:j < V.length
 .have hft:=Zwf (fun v=>v.2==s) V j Zng;have Zyu:((V.take (j+1)).filter (fun v=>v.2==s)).length<=j+1:=Nat.le_trans (List.length_filter_le _ _) (by simp;omega);generalize hvj:V[j]=vj at *;obtain⟨vx,vs⟩:=vj;by_cases hs:vs=s
  .subst hs;rw[if_pos (by simp)]at hft;rw[hft,List.length_append,List.length_cons,List.length_nil]at Zyu;obtain⟨w',h',hap,Vb,Zgn,hgt⟩:=hA.app (dd:=31) (ys:=[Zik (vx,vs)]) (T:={k:=.struct [(0,9),(1,3)],size:=2,bytes:=24,zero:=[.string {data:=#[]},.int .i64 0]}) (by simp) rfl (by simp only[List.length_map,List.length_cons,List.length_nil];omega) (by decide) (by decide) (by simp);simp only[List.length_cons,List.length_nil]at hap
   have hp':h'.get p=some (Zc,chO b xs i):=by
    rw[hgt p (by intro d hd;simp at hd;subst hd;simp[W5]),hp]
   have Vu:=hA.same (n:=3);have Zm9:=Vb.same (n:=3);rw[<- List.map_singleton (f:=Zik),<- List.map_append,<- hft]at Vb;replace Vb:=Hide.mk Vb;clear hgt hft hF
   (refine Zm ?_;repeat'(first|(refine Zi fun _=>?_;try simp(disch:=first|exact Zw|fail)[*,Yd])|refine Zx ?_|refine Zn ?_ ?_))
   exact⟨_,by omega,j+1,rfl,by omega,by omega,Vb.get⟩
  .rw [if_neg (by simp[hs]),List.append_nil]at hft;rw[<- hft]at hA;replace hA:=Hide.mk hA;clear hft hF
   (refine Zm ?_;repeat'(first|(refine Zi fun _=>?_;try simp(disch:=first|exact Zw|fail)[*,Yd])|refine Zx ?_|refine Zn ?_ ?_))
   exact⟨_,by omega,j+1,rfl,by omega,by omega,hA.get⟩
 .have e:V.take j=V:=List.take_of_length_le (by omega);rw[e,hF]at hA
  have Yp:F.map Zik≠[]:=by
   intro hh;rw[List.map_eq_nil_iff]at hh;rw[hh]at Tz;simp at Tz
  obtain⟨d,Zov,hd,rfl,hg⟩:=hA.own Yp;simp only[List.mem_singleton]at hd;subst hd;rw[List.length_map]at *;clear e hA hF Yp
  (refine Zm ?_;repeat'(first|(refine Zi fun _=>?_;try simp(disch:=first|exact Zw|fail)[*,Yd,Ze hlt])|refine Zx ?_|refine Zn ?_ ?_))
end
def NN:Nat->Nat
 | 0=>15
 |d+1=>3*NN d+1
structure VOk (V:List (Y9×Int)):Prop where
 ok:Zoj V
 all:∀s:Int,1<=s->s<=4->∃v∈V,v.2=s
 len:V.length < 2^20
section
variable (b:Bool)(xs:List Int)(V:List (Y9×Int))(b2:Bool)
abbrev VL:PV:=L 69 b2 (V.map Zik)
def MkT (f:Nat)(args:List PV)(s:Int)(D N i:Nat):Prop:=∃t i',i<=i'/\i'<=xs.length/\GT s D N V t/\Gen f args b xs i (TL t) i'
def Zdg (D N d:Nat):Prop:=∀s:Int,1<=s->s<=4->∀i,i<=xs.length->MkT b xs V 20 [.int .i64 s,.int .i64 (d:Int),VL V b2] s D N i
def Zk0 (D N d:Nat):Prop:=∀i,i<=xs.length->MkT b xs V 73 [.int .i64 (d:Int),VL V b2] 1 D N i
inductive Chain (f:Nat)(args:List PV)(P:List Nd->Prop):Nat->List (List Nd)->Nat->Prop
 |nil {i} (h:i<=xs.length):Chain f args P i [] i
 |cons {i j k t ts} (h1:i<=j) (h2:Gen f args b xs i (TL t) j) (h3:P t) (h:Chain f args P j ts k):Chain f args P i (t::ts) k
end
section
variable {b:Bool}{xs:List Int}{V:List (Y9×Int)}{b2:Bool}{i D N d:Nat}{s:Int}
theorem Chain.le {f:Nat}{args:List PV}{P:List Nd->Prop}{i k:Nat}{ts:List (List Nd)}(h:Chain b xs f args P i ts k):i<=k/\k<=xs.length:=by
 induction h with
 |nil h=>exact⟨Nat.le_refl _,h⟩
 |cons h1 _ _ _ ih=>exact⟨Nat.le_trans h1 ih.1,ih.2⟩
theorem Chain.all {f:Nat}{args:List PV}{P:List Nd->Prop}{i k:Nat}{ts:List (List Nd)}(h:Chain b xs f args P i ts k):∀t∈ts,P t:=by
 induction h with
 |nil=>simp
 |cons _ _ h3 _ ih=>simp[h3];exact ih
theorem Zn9 {f:Nat}{args:List PV}{s:Int}{D N:Nat}(h:∀i,i<=xs.length->MkT b xs V f args s D N i):∀n i,i<=xs.length->∃ts k,ts.length=n/\Chain b xs f args (GT s D N V) i ts k
 | 0,i,hi=>⟨[],i,rfl,.nil hi⟩
 |n+1,i,hi=>by
  obtain⟨t,j,h1,h2,h3,h4⟩:=h i hi;obtain⟨ts,k,h5,h6⟩:=Zn9 h n j h2;exact⟨t::ts,k,by simp[h5],.cons h1 h4 h3 h6⟩
theorem MkT.mono {f:Nat}{args:List PV}{D' N':Nat}(h:MkT b xs V f args s D N i)(hD:D<=D')(hN:N<=N'):MkT b xs V f args s D' N' i:=by
 obtain⟨t,i',h1,h2,h3,h4⟩:=h;exact⟨t,i',h1,h2,h3.mono hD hN,h4⟩
set_option maxHeartbeats 2000000 in
theorem Zyg (hF:Zk0 b xs V b2 D N d)(hT:Zdg b xs V b2 D N d)(hN:3*N < 2^29)(hd:d < 2^20)(s:Int)(h1:1<=s)(h4:s<=4)(hi:i<=xs.length):MkT b xs V 75 [.int .i64 s,.int .i64 (d+1:Int),VL V b2] s (D+1) (3*N+1) i:=by
 obtain⟨t1,i1,a1,a2,a3,a4⟩:=hF i hi;obtain⟨t2,i2,b1,b2',b3,b4⟩:=hT s h1 h4 i1 a2;obtain⟨t3,i3,c1,c2,c3,c4⟩:=hT s h1 h4 i2 b2';have l1:=a3.len;have l2:=b3.len;have l3:=c3.len;have h74:=Zdb 10 [t1,t2,t3] (by simp) (by simp;omega);simp only[List.map_cons,List.map_nil,Xe]at h74;refine⟨_,i3,by omega,c2,GT.ite a3 b3 c3,?_⟩;generalize Xh (opN 10) [t1,t2,t3]=r at *;clear hF hT a3 b3 c3;intro K H p Zc Zu hlt Zk;have W5:=Yg hlt;refine Wp Tryz.func75 Zu hlt Zk ?_
 (refine Zm ?_;repeat'(first|(refine Zi fun _=>?_;try simp(disch:=first|exact Zw|fail)[*,Yd,Tryz.f75])|refine Zx ?_|refine Zn ?_ ?_))
theorem Z0q (hl:xs.length<=400)(hV:VOk V)(s:Int)(h1:1<=s)(h4:s<=4)(hi:i<=xs.length)(dz:Int)(hz:dz<=0\/¬ i < xs.length):MkT b xs V 20 [.int .i64 s,.int .i64 dz,VL V b2] s 3 7 i:=by
 obtain⟨v1,i1,hv1,Ro,Sk,g1⟩:=Yy (b:=b) hl hi 3 3 rfl (by omega) (by omega);have g69:=Znm (b:=b) hl hi;by_cases h0:v1=0
 .subst h0;obtain⟨bo,num,ks,vs,i2,Qg,hb2,hS,g2⟩:=Zak5 (b:=b) hl Sk s h1 h4;obtain⟨t,hg,h70⟩:=Zaly hS;rw[Zok hg.ne]at h70;refine⟨t,i2,by omega,hb2,hg.vars (by simp),?_⟩;clear hg hS;generalize Zau s bo num ks vs=v at *;rcases hz with hz | hz
  .intro K H p Zc Zu hlt Zk;have W5:=Yg hlt;refine Wp Tryz.func20 Zu hlt Zk ?_
   (refine Zm ?_;repeat'(first|(refine Zi fun _=>?_;try simp(disch:=first|exact Zw|fail)[*,Yd,Tryz.f20])|refine Zx ?_|refine Zn ?_ ?_))
  .by_cases hz2:dz<=0
   .intro K H p Zc Zu hlt Zk;have W5:=Yg hlt;refine Wp Tryz.func20 Zu hlt Zk ?_
    (refine Zm ?_;repeat'(first|(refine Zi fun _=>?_;try simp(disch:=first|exact Zw|fail)[*,Yd,Tryz.f20])|refine Zx ?_|refine Zn ?_ ?_))
   .intro K H p Zc Zu hlt Zk;have W5:=Yg hlt;refine Wp Tryz.func20 Zu hlt Zk ?_
    (refine Zm ?_;repeat'(first|(refine Zi fun _=>?_;try simp(disch:=first|exact Zw|fail)[*,Yd,Tryz.f20])|refine Zx ?_|refine Zn ?_ ?_))
 .obtain ⟨x,i2,Qg,hb2,hx,g2⟩:=Zsb (b:=b) hl Sk s b2 V (hV.all s h1 h4) hV.len;refine⟨_,i2,by omega,hb2,GT.var hV.ok hx (by omega) (by omega),?_⟩;generalize [(⟨4,s,x,[],0⟩:Nd)]=t at *;rcases hz with hz | hz
  .intro K H p Zc Zu hlt Zk;have W5:=Yg hlt;refine Wp Tryz.func20 Zu hlt Zk ?_
   (refine Zm ?_;repeat'(first|(refine Zi fun _=>?_;try simp(disch:=first|exact Zw|fail)[*,Yd,Tryz.f20])|refine Zx ?_|refine Zn ?_ ?_))
  .by_cases hz2:dz<=0
   .intro K H p Zc Zu hlt Zk;have W5:=Yg hlt;refine Wp Tryz.func20 Zu hlt Zk ?_
    (refine Zm ?_;repeat'(first|(refine Zi fun _=>?_;try simp(disch:=first|exact Zw|fail)[*,Yd,Tryz.f20])|refine Zx ?_|refine Zn ?_ ?_))
   .intro K H p Zc Zu hlt Zk;have W5:=Yg hlt;refine Wp Tryz.func20 Zu hlt Zk ?_
    (refine Zm ?_;repeat'(first|(refine Zi fun _=>?_;try simp(disch:=first|exact Zw|fail)[*,Yd,Tryz.f20])|refine Zx ?_|refine Zn ?_ ?_))
set_option maxHeartbeats 2000000 in
theorem Z0r (hl:xs.length<=400)(hV:VOk V)(hT:Zdg b xs V b2 D N d)(hN:2*N < 2^29)(hN0:0 < N)(hD0:0 < D)(hi:i<=xs.length):MkT b xs V 119 [.int .i64 (d:Int),VL V b2] 1 (D+1) (2*N+1) i:=by
 obtain⟨v1,i1,hv1,Ro,Sk,g1⟩:=Yy (b:=b) hl hi 5 5 rfl (by omega) (by omega);by_cases hv4:v1=4
 .subst hv4;obtain⟨v2,i2,hv2,Qg,hb2,g2⟩:=Yy (b:=b) hl Sk 3 3 rfl (by omega) (by omega);by_cases h0:v2=0
  .subst h0;obtain⟨v3,i3,hv3,ha3,hb3,g3⟩:=Yy (b:=b) hl hb2 2 2 rfl (by omega) (by omega);have h117:=Z2b (decide (v3=1));refine⟨_,i3,by omega,hb3,GT.bool (o:=if decide (v3=1)=true then 1 else 2) (by split<;>simp) (by omega) (by omega),?_⟩;rw[Zok (by simp)]at h117;generalize [(⟨if decide (v3=1)=true then 1 else 2,0,[],[],0⟩:Nd)]=t at *;by_cases h3:v3=1
   .rw [decide_eq_true h3]at h117;subst h3;intro K H p Zc Zu hlt Zk;have W5:=Yg hlt;refine Wp Tryz.func119 Zu hlt Zk ?_
    (refine Zm ?_;repeat'(first|(refine Zi fun _=>?_;try simp(disch:=first|exact Zw|fail)[*,Yd,Tryz.f119,Ze hlt])|refine Zx ?_|refine Zn ?_ ?_))
   .rw [decide_eq_false h3]at h117;have h3':((v3:Int)==1)=false:=by simp;omega
    intro K H p Zc Zu hlt Zk;have W5:=Yg hlt;refine Wp Tryz.func119 Zu hlt Zk ?_
    (refine Zm ?_;repeat'(first|(refine Zi fun _=>?_;try simp(disch:=first|exact Zw|fail)[*,Yd,Tryz.f119,Ze hlt])|refine Zx ?_|refine Zn ?_ ?_))
  .obtain ⟨x,i3,ha3,hb3,hx,g3⟩:=Zsb (b:=b) hl hb2 1 b2 V (hV.all 1 (by omega) (by omega)) hV.len;refine⟨_,i3,by omega,hb3,GT.var hV.ok hx (by omega) (by omega),?_⟩;generalize [(⟨4,1,x,[],0⟩:Nd)]=t at *;intro K H p Zc Zu hlt Zk;have W5:=Yg hlt;refine Wp Tryz.func119 Zu hlt Zk ?_
   (refine Zm ?_;repeat'(first|(refine Zi fun _=>?_;try simp(disch:=first|exact Zw|fail)[*,Yd,Tryz.f119,Ze hlt])|refine Zx ?_|refine Zn ?_ ?_))
 .by_cases hv3:v1=3
  .subst hv3;obtain⟨t1,i2,a1,a2,a3,a4⟩:=hT 4 (by omega) (by omega) i1 Sk;obtain⟨t2,i3,c1,c2,c3,c4⟩:=hT 4 (by omega) (by omega) i2 a2;have l1:=a3.len;have l2:=c3.len;have h74:=Zdb 11 [t1,t2] (by simp) (by simp;omega);simp only[List.map_cons,List.map_nil,Xe]at h74;refine⟨_,i3,by omega,c2,GT.eq a3 c3,?_⟩;generalize Xh (opN 11) [t1,t2]=r at *;clear hT a3 c3;intro K H p Zc Zu hlt Zk;have W5:=Yg hlt;refine Wp Tryz.func119 Zu hlt Zk ?_
   (refine Zm ?_;repeat'(first|(refine Zi fun _=>?_;try simp(disch:=first|exact Zw|fail)[*,Yd,Tryz.f119,Ze hlt])|refine Zx ?_|refine Zn ?_ ?_))
  .obtain ⟨s,hs,hs2⟩:∃s:Int,(v1=0/\s=2\/v1=1/\s=2\/v1=2/\s=3)/\(s=2\/s=3):=by
    by_cases h2:v1=2
    .exact ⟨3,by omega,by omega⟩
    .exact ⟨2,by omega,by omega⟩
   obtain⟨v2,i2,hv2,Qg,hb2,g2⟩:=Yy (b:=b) hl Sk 3 3 rfl (by omega) (by omega);obtain⟨t1,i3,a1,a2,a3,a4⟩:=hT s (by omega) (by omega) i2 hb2;obtain⟨t2,i4,c1,c2,c3,c4⟩:=hT s (by omega) (by omega) i3 a2;have l1:=a3.len;have l2:=c3.len;have h74:=Zdb (11+v2) [t1,t2] (by simp) (by simp;omega);simp only[List.map_cons,List.map_nil,Xe]at h74
   have hg:GT 1 (D+1) (2*N+1) V (Xh (opN (11+v2)) [t1,t2]):=by
    by_cases h0:v2=0
    .subst h0;exact GT.eq a3 c3
    .exact GT.cmp (by omega) hs2 a3 c3
   refine⟨_,i4,by omega,c2,hg,?_⟩;generalize Xh (opN (11+v2)) [t1,t2]=r at *;clear hT a3 c3 hg hs2;rcases hs with⟨rfl,rfl⟩ | ⟨rfl,rfl⟩ | ⟨rfl,rfl⟩
   all_goals
    intro K H p Zc Zu hlt Zk;have W5:=Yg hlt;refine Wp Tryz.func119 Zu hlt Zk ?_
    (refine Zm ?_;repeat'(first|(refine Zi fun _=>?_;try simp(disch:=first|exact Zw|fail)[*,Yd,Tryz.f119,Ze hlt])|refine Zx ?_|refine Zn ?_ ?_))
theorem Zu9 (hl:xs.length<=400)(hV:VOk V)(hT:Zdg b xs V b2 3 7 0)(hi:i<=xs.length)(dz:Int)(hz:dz<=0\/¬ i < xs.length):MkT b xs V 73 [.int .i64 dz,VL V b2] 1 4 15 i:=by
 obtain⟨t,i1,h1,h2,h3,g1⟩:=Z0r hl hV hT (by omega) (by omega) (by omega) hi;have g69:=Znm (b:=b) hl hi;refine⟨t,i1,h1,h2,h3,?_⟩;simp only[Int.natCast_zero,Int.ofNat_zero]at g1;clear hT h3;rcases hz with hz | hz
 .intro K H p Zc Zu hlt Zk;have W5:=Yg hlt;refine Wp Tryz.func73 Zu hlt Zk ?_
  (refine Zm ?_;repeat'(first|(refine Zi fun _=>?_;try simp(disch:=first|exact Zw|fail)[*,Yd,Tryz.f73])|refine Zx ?_|refine Zn ?_ ?_))
 .by_cases hz2:dz<=0
  .intro K H p Zc Zu hlt Zk;have W5:=Yg hlt;refine Wp Tryz.func73 Zu hlt Zk ?_
   (refine Zm ?_;repeat'(first|(refine Zi fun _=>?_;try simp(disch:=first|exact Zw|fail)[*,Yd,Tryz.f73])|refine Zx ?_|refine Zn ?_ ?_))
  .intro K H p Zc Zu hlt Zk;have W5:=Yg hlt;refine Wp Tryz.func73 Zu hlt Zk ?_
   (refine Zm ?_;repeat'(first|(refine Zi fun _=>?_;try simp(disch:=first|exact Zw|fail)[*,Yd,Tryz.f73])|refine Zx ?_|refine Zn ?_ ?_))
end
section
variable {b:Bool}{xs:List Int}{V:List (Y9×Int)}{b2:Bool}{i D N d:Nat}{s:Int}
theorem Zu5 (r:List Nd):Yu 23 14 (TL r)=true:=Zyd (by decide) fun x hx=>by
 simp only[List.mem_map]at hx;obtain⟨n,_,rfl⟩:=hx;rfl
set_option maxHeartbeats 2000000 in
theorem Zaiq (hl:xs.length<=400)(hF:Zk0 b xs V b2 D N d)(hN:3*N < 2^29)(hd:d < 2^20){c:Nat}(hc:2<=c/\c<=5){i0:Nat}(hi0:i0 < xs.length)(hi:i<=xs.length)(h0:i0<=i)(g0:Gen 21 [.int .i64 12] b xs i0 (.int .i64 c) i):MkT b xs V 73 [.int .i64 (d+1:Int),VL V b2] 1 (D+1) (3*N+1) i0:=by
 have g69:=Znm (b:=b) hl (Nat.le_of_lt hi0);obtain⟨n,i1,hn,Ro,Sk,g1⟩:=Yy (b:=b) hl hi 4 4 rfl (by omega) (by omega);obtain⟨ts,i2,hts,hC⟩:=Zn9 hF n i1 Sk;have hle:=hC.le;obtain⟨v,i3,hv,ha3,hb3,g3⟩:=Yy (b:=b) hl hle.2 2 2 rfl (by omega) (by omega);have hg:GT 1 (D+1) (ts.length*N+1) V (Xh (opN (7+v)) ts):=GT.log (by omega) hC.all;have hsz:ts.flatten.length<=ts.length*N:=(GTs.rep hC.all).size;have hmul:ts.length*N<=3*N:=Nat.mul_le_mul_right _ (by omega);have h74:=Zdb (7+v) ts (by omega) (by omega);refine⟨_,i3,by omega,hb3,hg.mono (Nat.le_refl _) (by omega),?_⟩;generalize Xh (opN (7+v)) ts=r at *;clear hg hF hsz hmul;have hcc:(c:Int)=2\/(c:Int)=3\/(c:Int)=4\/(c:Int)=5:=by omega
 have hc1:((c:Int)==0)=false:=by simp;omega
 have hc2:((c:Int)==1)=false:=by simp;omega
 intro K H p Zc Zu hlt Zk;have W5:=Yg hlt;refine Wp Tryz.func73 Zu hlt Zk ?_
 (refine Zm ?_;repeat'(first|(refine Zi fun _=>?_;try simp(disch:=first|exact Zw|fail)[*,Yd,Tryz.f73])|refine Zx ?_|refine Zn ?_ ?_))
 all_goals
  refine Zv [0,1,2] (fun n sl h=>∃(done rest:List (List Nd)) (j:Nat) (w:PV),n=rest.length/\ts=done++rest/\sl 8=some (.int .i64 rest.length)/\sl 7=some w/\Acc [49] ⟨H.next,H.next,[p]⟩ h 23 w (done.map TL)/\Chain b xs 73 [.int .i64 (d:Int),VL V b2] (GT 1 D N V) j rest i2/\h.get p=some (Zc,chO b xs j)/\p < h.next) ts.length rfl ⟨[],ts,i1,.nils,rfl,rfl,by simp[hts],by simp,Acc.nil,hC,by simp[*],by simp;omega⟩ ?_;rintro m sl h hf ⟨done,rest,j,w,hm,hdr,h8,h7,hA,hCh,hp,hpx⟩;simp at hf;have hdl:=congrArg List.length hdr;simp only[List.length_append]at hdl;cases hCh with
  |nil=>
   rw[List.append_nil]at hdr;subst hdr;rw[List.length_nil]at *;have hc:=(hA.frame (h':=h.put p Zc (chO b xs i3)) (fun e he=>by simp at he;subst he;simp[Ze hlt])).callT (C:=vE) (f:=74) rfl rfl [.int .i64 (7+v)] [] h74 (fun _=>rfl) (Zu5 r) rfl rfl;simp only[List.nil_append,List.singleton_append]at hc
   (refine Zm ?_;repeat'(first|(refine Zi fun _=>?_;try simp(disch:=first|exact Zw|fail)[*,Yd])|refine Zx ?_|refine Zn ?_ ?_))
  |cons h1 h2 h3 h4=>
   rename_i j2 t rest;rw[List.length_cons]at *;obtain⟨w',h',hap,Vb,Zgn,hgt⟩:=(hA.frame (h':=h.put p Zc (chO b xs j2)) (fun e he=>by simp at he;subst he;simp[Ze hlt])).app (dd:=49) (ys:=[TL t]) (T:={k:=.slice 58,size:=1,bytes:=24,zero:=[.slice none 0 0]}) (by simp) rfl (by simp only[List.length_map,List.length_cons,List.length_nil];omega) (by decide) (by decide) (by simp);simp only[List.length_cons,List.length_nil]at hap
   have hp':h'.get p=some (Zc,chO b xs j2):=by
    rw[hgt p (by intro e he;simp at he;subst he;simp[W5])];simp
   have hpx':p < h'.next:=by rw[Zgn];simpa using hpx
   rw[<- List.map_singleton (f:=TL),<- List.map_append]at Vb;have Xx:ts=(done++[t])++rest:=by rw[hdr];simp
   replace Vb:=Hide.mk Vb;replace Xx:=Hide.mk Xx;clear hgt hA
   (refine Zm ?_;repeat'(first|(refine Zi fun _=>?_;try simp(disch:=first|exact Zw|fail)[*,Yd])|refine Zx ?_|refine Zn ?_ ?_))
   exact⟨_,by omega,done++[t],rest,rfl,by rw[<- hdr];exact Xx.get,rfl,Vb.get,j2,h4,rfl⟩
end
section
variable {b:Bool}{xs:List Int}{V:List (Y9×Int)}{b2:Bool}{i D N d:Nat}{s:Int}
set_option maxHeartbeats 4000000 in
theorem Zacu (hl:xs.length<=400)(hV:VOk V)(hF:Zk0 b xs V b2 D N d)(hT:Zdg b xs V b2 D N d)(hT0:Zdg b xs V b2 3 7 0)(hN:3*N < 2^29)(hN0:15<=N)(hD0:4<=D)(hd:d < 2^20)(hi:i<=xs.length):MkT b xs V 73 [.int .i64 (d+1:Int),VL V b2] 1 (D+1) (3*N+1) i:=by
 by_cases Z3p:i < xs.length
 .have g69:=Znm (b:=b) hl hi;rw[decide_eq_true Z3p]at g69;obtain⟨c,i1,hc,Ro,Sk,g1⟩:=Yy (b:=b) hl hi 12 12 rfl (by omega) (by omega);by_cases hc25:2<=c/\c<=5
  .exact Zaiq hl hF hN hd hc25 Z3p Sk Ro g1
  .by_cases hc1:c=0\/c=1
   .obtain ⟨t1,i2,a1,a2,a3,a4⟩:=hF i1 Sk;have l1:=a3.len;have h74:=Zdb 6 [t1] (by simp) (by simp;omega);simp only[List.map_cons,List.map_nil,Xe]at h74;refine⟨_,i2,by omega,a2,(GT.not a3).mono (Nat.le_refl _) (by omega),?_⟩;generalize Xh (opN 6) [t1]=r at *;clear hF hT hT0 a3;rcases hc1 with rfl | rfl
    all_goals
     intro K H p Zc Zu hlt Zk;have W5:=Yg hlt;refine Wp Tryz.func73 Zu hlt Zk ?_
     (refine Zm ?_;repeat'(first|(refine Zi fun _=>?_;try simp(disch:=first|exact Zw|fail)[*,Yd,Tryz.f73])|refine Zx ?_|refine Zn ?_ ?_))
   .by_cases h6:c=6
    .subst h6;obtain⟨t1,i2,a1,a2,a3,a4⟩:=hF i1 Sk;obtain⟨t2,i3,b1,b2',b3,b4⟩:=hF i2 a2;have l1:=a3.len;have l2:=b3.len;have h74:=Zdb 9 [t1,t2] (by simp) (by simp;omega);simp only[List.map_cons,List.map_nil,Xe]at h74;refine⟨_,i3,by omega,b2',(GT.imp a3 b3).mono (Nat.le_refl _) (by omega),?_⟩;generalize Xh (opN 9) [t1,t2]=r at *;clear hF hT hT0 a3 b3;intro K H p Zc Zu hlt Zk;have W5:=Yg hlt;refine Wp Tryz.func73 Zu hlt Zk ?_
     (refine Zm ?_;repeat'(first|(refine Zi fun _=>?_;try simp(disch:=first|exact Zw|fail)[*,Yd,Tryz.f73])|refine Zx ?_|refine Zn ?_ ?_))
    .by_cases h7:c=7
     .subst h7;obtain⟨t1,i2,a1,a2,a3,a4⟩:=Zyg hF hT hN hd 1 (by omega) (by omega) Sk;refine⟨_,i2,by omega,a2,a3,?_⟩;clear hF hT hT0 a3;intro K H p Zc Zu hlt Zk;have W5:=Yg hlt;refine Wp Tryz.func73 Zu hlt Zk ?_
      (refine Zm ?_;repeat'(first|(refine Zi fun _=>?_;try simp(disch:=first|exact Zw|fail)[*,Yd,Tryz.f73])|refine Zx ?_|refine Zn ?_ ?_))
     .by_cases h8:c=8
      .subst h8;obtain⟨t1,i2,a1,a2,a3,a4⟩:=hF i1 Sk;obtain⟨t2,i3,b1,b2',b3,b4⟩:=hF i2 a2;have l1:=a3.len;have l2:=b3.len;have h74:=Zdb 11 [t1,t2] (by simp) (by simp;omega);simp only[List.map_cons,List.map_nil,Xe]at h74;refine⟨_,i3,by omega,b2',(GT.eq a3 b3).mono (Nat.le_refl _) (by omega),?_⟩;generalize Xh (opN 11) [t1,t2]=r at *;clear hF hT hT0 a3 b3;intro K H p Zc Zu hlt Zk;have W5:=Yg hlt;refine Wp Tryz.func73 Zu hlt Zk ?_
       (refine Zm ?_;repeat'(first|(refine Zi fun _=>?_;try simp(disch:=first|exact Zw|fail)[*,Yd,Tryz.f73])|refine Zx ?_|refine Zn ?_ ?_))
      .obtain ⟨t1,i2,a1,a2,a3,a4⟩:=Z0r hl hV hT (by omega) (by omega) (by omega) Sk;refine⟨_,i2,by omega,a2,a3.mono (Nat.le_refl _) (by omega),?_⟩;clear hF hT hT0 a3;intro K H p Zc Zu hlt Zk;have W5:=Yg hlt;refine Wp Tryz.func73 Zu hlt Zk ?_
       (refine Zm ?_;repeat'(first|(refine Zi fun _=>?_;try simp(disch:=first|exact Zw|fail)[*,Yd,Tryz.f73])|refine Zx ?_|refine Zn ?_ ?_))
 .exact (Zu9 hl hV hT0 hi _ (.inr Z3p)).mono (by omega) (by omega)
set_option maxHeartbeats 4000000 in
theorem Zair (hl:xs.length<=400)(hT:Zdg b xs V b2 D N d)(hN:3*N < 2^29)(hd:d < 2^20)(hs:s=2\/s=3){c:Nat}(hc:c < 3){i0:Nat}(hi:i<=xs.length)(h0:i0<=i)(g0:Gen 21 [.int .i64 10] b xs i0 (.int .i64 c) i):MkT b xs V 76 [.int .i64 s,.int .i64 (d+1:Int),VL V b2] s (D+1) (3*N+1) i0:=by
 obtain⟨t0,i1,Ro,Sk,hG0,g1⟩:=hT s (by omega) (by omega) i hi;obtain⟨n,i2,hn,Qg,hb2,g2⟩:=Yy (b:=b) hl Sk 3 3 rfl (by omega) (by omega);obtain⟨ts,i3,hts,hC⟩:=Zn9 (hT s (by omega) (by omega)) n i2 hb2;have hle:=hC.le
 have hall:∀t∈t0::ts,GT s D N V t:=by
  intro t ht;rcases List.mem_cons.1 ht with rfl | ht
  .exact hG0
  .exact hC.all t ht
 have hg:GT s (D+1) ((t0::ts).length*N+1) V (Xh (opN 14) (t0::ts)):=GT.add hs hall (by simp);have hsz:(t0::ts).flatten.length<=(t0::ts).length*N:=(GTs.rep hall).size;have hmul:(t0::ts).length*N<=3*N:=Nat.mul_le_mul_right _ (by simp;omega);have h74:=Zdb 14 (t0::ts) (by simp;omega) (by omega);refine⟨_,i3,by omega,by omega,hg.mono (Nat.le_refl _) (by omega),?_⟩;generalize Xh (opN 14) (t0::ts)=r at *;clear hg hT hsz hmul hall;intro K H p Zc Zu hlt Zk;have W5:=Yg hlt;refine Wp Tryz.func76 Zu hlt Zk ?_
 (refine Zm ?_;repeat'(first|(refine Zi fun _=>?_;try simp(disch:=first|exact Zw|fail)[*,Yd,Tryz.f76])|refine Zx ?_|refine Zn ?_ ?_))
 refine Zv [0,1,2,3] (fun n sl h=>∃(done rest:List (List Nd)) (j:Nat) (w:PV),n=rest.length/\ts=done++rest/\sl 11=some (.int .i64 rest.length)/\sl 10=some w/\Acc [24,39] ⟨H.next,H.next,[p]⟩ h 23 w ((t0::done).map TL)/\Chain b xs 20 [.int .i64 s,.int .i64 (d:Int),VL V b2] (GT s D N V) j rest i3/\h.get p=some (Zc,chO b xs j)/\p < h.next) ts.length rfl ⟨[],ts,i2,.own (H.next+24) (H.stamp (H.next+24)) 23 0 1,rfl,rfl,by simp[hts],by simp[Ze hlt],Or.inr ⟨24,H.stamp (H.next+24),by simp,by simp,by simp,by simp[Ze hlt]⟩,hC,by simp[*],by simp;omega⟩ ?_;rintro m sl h hf ⟨done,rest,j,w,hm,hdr,h8,h7,hA,hCh,hp,hpx⟩;simp at hf;have hdl:=congrArg List.length hdr;simp only[List.length_append]at hdl;cases hCh with
 |nil=>
  rw[List.append_nil]at hdr;subst hdr;rw[List.length_nil]at *;have hc:=hA.callT (C:=vE) (f:=74) rfl rfl [.int .i64 14] [] h74 (fun _=>rfl) (Zu5 r) rfl rfl;simp only[List.nil_append,List.singleton_append]at hc
  (refine Zm ?_;repeat'(first|(refine Zi fun _=>?_;try simp(disch:=first|exact Zw|fail)[*,Yd])|refine Zx ?_|refine Zn ?_ ?_))
 |cons h1 h2 h3 h4=>
  rename_i j2 t rest;rw[List.length_cons]at *;obtain⟨w',h',hap,Vb,Zgn,hgt⟩:=(hA.frame (h':=h.put p Zc (chO b xs j2)) (fun e he=>by simp at he;rcases he with rfl | rfl<;>simp[Ze hlt])).app (dd:=39) (ys:=[TL t]) (T:={k:=.slice 58,size:=1,bytes:=24,zero:=[.slice none 0 0]}) (by simp) rfl (by simp only[List.length_map,List.length_cons,List.length_nil];omega) (by decide) (by decide) (by simp);simp only[List.length_cons,List.length_nil]at hap
  have hp':h'.get p=some (Zc,chO b xs j2):=by
   rw[hgt p (by intro e he;simp at he;rcases he with rfl | rfl<;>simp[W5])];simp
  have hpx':p < h'.next:=by rw[Zgn];simpa using hpx
  rw[<- List.map_singleton (f:=TL),<- List.map_append]at Vb;have Xx:ts=(done++[t])++rest:=by rw[hdr];simp
  replace Vb:=Hide.mk Vb;replace Xx:=Hide.mk Xx;clear hgt hA
  (refine Zm ?_;repeat'(first|(refine Zi fun _=>?_;try simp(disch:=first|exact Zw|fail)[*,Yd])|refine Zx ?_|refine Zn ?_ ?_))
  exact⟨_,by omega,done++[t],rest,rfl,by rw[<- hdr];exact Xx.get,rfl,Vb.get,j2,h4,rfl⟩
end
section
variable {b:Bool}{xs:List Int}{V:List (Y9×Int)}{b2:Bool}{i D N d:Nat}{s:Int}
set_option maxHeartbeats 4000000 in
theorem Z67 (hl:xs.length<=400)(hV:VOk V)(hF:Zk0 b xs V b2 D N d)(hT:Zdg b xs V b2 D N d)(hN:3*N < 2^29)(hN0:15<=N)(hD0:4<=D)(hd:d < 2^20)(hs:s=2\/s=3)(hi:i<=xs.length):MkT b xs V 76 [.int .i64 s,.int .i64 (d+1:Int),VL V b2] s (D+1) (3*N+1) i:=by
 obtain⟨c,i1,hc,Ro,Sk,g1⟩:=Yy (b:=b) hl hi 10 10 rfl (by omega) (by omega);by_cases hc3:c < 3
 .exact Zair hl hT hN hd hs hc3 Sk Ro g1
 .by_cases hc5:c=5
  .subst hc5;obtain⟨t1,i2,a1,a2,a3,a4⟩:=Zyg hF hT hN hd s (by omega) (by omega) Sk;refine⟨_,i2,by omega,a2,a3,?_⟩;clear hF hT a3;intro K H p Zc Zu hlt Zk;have W5:=Yg hlt;refine Wp Tryz.func76 Zu hlt Zk ?_
   (refine Zm ?_;repeat'(first|(refine Zi fun _=>?_;try simp(disch:=first|exact Zw|fail)[*,Yd,Tryz.f76])|refine Zx ?_|refine Zn ?_ ?_))
  .by_cases hc4:c < 5
   .obtain ⟨x,i2,a1,a2,a3,a4,a5⟩:=Z1i (b:=b) hl Sk s;obtain⟨t1,i3,c1,c2,c3,c4⟩:=hT s (by omega) (by omega) i2 a2;have h35:=Zgv s x;rw[Zok (by simp)]at h35;have gn:GT s D N V [⟨3,s,[],x,0⟩]:=GT.num hs a3.ok.1 (fun h=>(a4 h).ok.1) a3.den (Nat.le_trans a3.ok.2 (by omega)) (by omega) (by omega);have gm:=GT.mul rfl hs gn c3;have l1:=c3.len;have h74:=Zdb 15 [[⟨3,s,[],x,0⟩],t1] (by simp) (by simp;omega);simp only[List.map_cons,List.map_nil,Xe]at h74;refine⟨_,i3,by omega,c2,gm.mono (Nat.le_refl _) (by omega),?_⟩;generalize Xh (opN 15) [[⟨3,s,[],x,0⟩],t1]=r at *;generalize [(⟨3,s,[],x,0⟩:Nd)]=q at *;clear hF hT a3 a4 c3 gn gm;have hcc:c=3\/c=4:=by omega
    rcases hcc with rfl | rfl
    all_goals
     intro K H p Zc Zu hlt Zk;have W5:=Yg hlt;refine Wp Tryz.func76 Zu hlt Zk ?_
     (refine Zm ?_;repeat'(first|(refine Zi fun _=>?_;try simp(disch:=first|exact Zw|fail)[*,Yd,Tryz.f76])|refine Zx ?_|refine Zn ?_ ?_))
   .by_cases h6:c=6/\s=2
    .obtain ⟨rfl,rfl⟩:=h6;obtain⟨v2,i2,hv2,Qg,hb2,g2⟩:=Yy (b:=b) hl Sk 2 2 rfl (by omega) (by omega);obtain⟨v3,i3,hv3,ha3,hb3,g3⟩:=Yy (b:=b) hl hb2 5 5 rfl (by omega) (by omega);obtain⟨t1,i4,c1,c2,c3,c4⟩:=hT 2 (by omega) (by omega) i3 hb3;have h38:=Rz (1+v3:Int) (by omega) (by omega);have hx1:=Qb (1+v3:Int);have hx2:=Z2r (k:=(1+v3:Int)) (by omega);have hx3:=Zec (k:=(1+v3:Int)) (by omega);generalize Zca (1+v3:Int)=x at *;have gd:=GT.div (o:=16+v2) (x:=x) (by omega) hx1 (by rw[hx2];omega) (by omega) c3;have l1:=c3.len;have h47:=Zcy ⟨16+v2,0,[],x,0⟩ [t1] (by simp) (by simp;omega);simp only[List.map_cons,List.map_nil,Xe,Zo]at h47;refine⟨_,i4,by omega,c2,gd.mono (Nat.le_refl _) (by omega),?_⟩;generalize Xh ⟨16+v2,0,[],x,0⟩ [t1]=r at *;clear hF hT c3 gd hx1 hx2;intro K H p Zc Zu hlt Zk;have W5:=Yg hlt;refine Wp Tryz.func76 Zu hlt Zk ?_
     (refine Zm ?_;repeat'(first|(refine Zi fun _=>?_;try simp(disch:=first|exact Zw|fail)[*,Yd,Tryz.f76,Ze hlt])|refine Zx ?_|refine Zn ?_ ?_))
     refine Yw false false [] [81] [H.next+12] [87,89] false (by decide+kernel) ?_;have hpe:∀d,(H.next+d==p)=false:=fun d=>by simp[Ze hlt]
     (refine Zm ?_;repeat'(first|(refine Zi fun _=>?_;try simp(disch:=first|exact Zw|fail)[*,Yd,Ze hlt,reach,refsO,Zfc])|refine Zx ?_|refine Zn ?_ ?_))
     all_goals exact absurd ‹Nat.blt 12 122=false› (by decide)
    .by_cases h7:c=7/\s=2
     .obtain ⟨rfl,rfl⟩:=h7;obtain⟨t1,i2,a1,a2,a3,a4⟩:=hT 4 (by omega) (by omega) i1 Sk;obtain⟨t2,i3,c1,c2,c3,c4⟩:=hT 2 (by omega) (by omega) i2 a2;have l1:=a3.len;have l2:=c3.len;have h74:=Zdb 18 [t1,t2] (by simp) (by simp;omega);simp only[List.map_cons,List.map_nil,Xe]at h74;refine⟨_,i3,by omega,c2,(GT.sel a3 c3).mono (Nat.le_refl _) (by omega),?_⟩;generalize Xh (opN 18) [t1,t2]=r at *;clear hF hT a3 c3;intro K H p Zc Zu hlt Zk;have W5:=Yg hlt;refine Wp Tryz.func76 Zu hlt Zk ?_
      (refine Zm ?_;repeat'(first|(refine Zi fun _=>?_;try simp(disch:=first|exact Zw|fail)[*,Yd,Tryz.f76])|refine Zx ?_|refine Zn ?_ ?_))
     .by_cases h8:c=8
      .subst h8;obtain⟨x,i2,a1,a2,a3,a4,a5⟩:=Z1i (b:=b) hl Sk s;have h35:=Zgv s x;rw[Zok (by simp)]at h35;have gn:GT s (D+1) (3*N+1) V [⟨3,s,[],x,0⟩]:=GT.num hs a3.ok.1 (fun h=>(a4 h).ok.1) a3.den (Nat.le_trans a3.ok.2 (by omega)) (by omega) (by omega);refine⟨_,i2,by omega,a2,gn,?_⟩;generalize [(⟨3,s,[],x,0⟩:Nd)]=q at *;clear hF hT a3 a4 gn;intro K H p Zc Zu hlt Zk;have W5:=Yg hlt;refine Wp Tryz.func76 Zu hlt Zk ?_
       (refine Zm ?_;repeat'(first|(refine Zi fun _=>?_;try simp(disch:=first|exact Zw|fail)[*,Yd,Tryz.f76])|refine Zx ?_|refine Zn ?_ ?_))
      .obtain ⟨x,i2,a1,a2,a3,a4⟩:=Zsb (b:=b) hl Sk s b2 V (hV.all s (by omega) (by omega)) hV.len;refine⟨_,i2,by omega,a2,GT.var hV.ok a3 (by omega) (by omega),?_⟩;generalize [(⟨4,s,x,[],0⟩:Nd)]=q at *;clear hF hT;have hcc:c=6/\s=3\/c=7/\s=3\/c=9:=by omega
       rcases hcc with⟨rfl,rfl⟩ | ⟨rfl,rfl⟩ | rfl
       all_goals
        intro K H p Zc Zu hlt Zk;have W5:=Yg hlt;refine Wp Tryz.func76 Zu hlt Zk ?_
        (refine Zm ?_;repeat'(first|(refine Zi fun _=>?_;try simp(disch:=first|exact Zw|fail)[*,Yd,Tryz.f76])|refine Zx ?_|refine Zn ?_ ?_))
set_option maxHeartbeats 4000000 in
theorem Zact (hl:xs.length<=400)(hV:VOk V)(hF:Zk0 b xs V b2 D N d)(hF1:Zk0 b xs V b2 (D+1) (3*N+1) (d+1))(hT:Zdg b xs V b2 D N d)(hN:3*N < 2^29)(hN0:15<=N)(hD0:4<=D)(hd:d < 2^20)(h1:1<=s)(h4:s<=4)(hi:i<=xs.length):MkT b xs V 20 [.int .i64 s,.int .i64 (d+1:Int),VL V b2] s (D+1) (3*N+1) i:=by
 by_cases Z3p:i < xs.length
 .have g69:=Znm (b:=b) hl hi;rw[decide_eq_true Z3p]at g69;by_cases hs1:s=1
  .subst hs1;obtain⟨t,i1,a1,a2,a3,a4⟩:=hF1 i hi;simp only[Int.natCast_add,Int.natCast_one,Int.cast_ofNat_Int]at a4;refine⟨t,i1,a1,a2,a3,?_⟩;clear hF hF1 hT a3;intro K H p Zc Zu hlt Zk;have W5:=Yg hlt;refine Wp Tryz.func20 Zu hlt Zk ?_
   (refine Zm ?_;repeat'(first|(refine Zi fun _=>?_;try simp(disch:=first|exact Zw|fail)[*,Yd,Tryz.f20])|refine Zx ?_|refine Zn ?_ ?_))
  .by_cases hs4:s=4
   .subst hs4;clear hs1 h1 h4;obtain⟨c,i1,hc,Ro,Sk,g1⟩:=Yy (b:=b) hl hi 5 5 rfl (by omega) (by omega);by_cases h0:c=0
    .subst h0;obtain⟨t1,i2,a1,a2,a3,a4⟩:=hT 2 (by omega) (by omega) i1 Sk;have l1:=a3.len;have h74:=Zdb 20 [t1] (by simp) (by simp;omega);simp only[List.map_cons,List.map_nil,Xe]at h74;refine⟨_,i2,by omega,a2,(GT.const a3).mono (Nat.le_refl _) (by omega),?_⟩;generalize Xh (opN 20) [t1]=r at *;clear hF hF1 hT a3;intro K H p Zc Zu hlt Zk;have W5:=Yg hlt;refine Wp Tryz.func20 Zu hlt Zk ?_
     (refine Zm ?_;repeat'(first|(refine Zi fun _=>?_;try simp(disch:=first|exact Zw|fail)[*,Yd,Tryz.f20])|refine Zx ?_|refine Zn ?_ ?_))
    .by_cases h12:c=1\/c=2
     .obtain ⟨t1,i2,a1,a2,a3,a4⟩:=hT 4 (by omega) (by omega) i1 Sk;obtain⟨t2,i3,b1,b2',b3,b4⟩:=hT 2 (by omega) (by omega) i2 a2;obtain⟨t3,i4,c1,c2,c3,c4⟩:=hT 2 (by omega) (by omega) i3 b2';have l1:=a3.len;have l2:=b3.len;have l3:=c3.len;have h74:=Zdb 19 [t1,t2,t3] (by simp) (by simp;omega);simp only[List.map_cons,List.map_nil,Xe]at h74;refine⟨_,i4,by omega,c2,GT.sto a3 b3 c3,?_⟩;generalize Xh (opN 19) [t1,t2,t3]=r at *;clear hF hF1 hT a3 b3 c3;rcases h12 with rfl | rfl
      all_goals
       intro K H p Zc Zu hlt Zk;have W5:=Yg hlt;refine Wp Tryz.func20 Zu hlt Zk ?_
       (refine Zm ?_;repeat'(first|(refine Zi fun _=>?_;try simp(disch:=first|exact Zw|fail)[*,Yd,Tryz.f20])|refine Zx ?_|refine Zn ?_ ?_))
     .by_cases h3:c=3
      .subst h3;obtain⟨t1,i2,a1,a2,a3,a4⟩:=Zyg hF hT hN hd 4 (by omega) (by omega) Sk;refine⟨_,i2,by omega,a2,a3,?_⟩;clear hF hF1 hT a3;intro K H p Zc Zu hlt Zk;have W5:=Yg hlt;refine Wp Tryz.func20 Zu hlt Zk ?_
       (refine Zm ?_;repeat'(first|(refine Zi fun _=>?_;try simp(disch:=first|exact Zw|fail)[*,Yd,Tryz.f20])|refine Zx ?_|refine Zn ?_ ?_))
      .obtain ⟨x,i2,a1,a2,a3,a4⟩:=Zsb (b:=b) hl Sk 4 b2 V (hV.all 4 (by omega) (by omega)) hV.len;refine⟨_,i2,by omega,a2,GT.var hV.ok a3 (by omega) (by omega),?_⟩;generalize [(⟨4,4,x,[],0⟩:Nd)]=q at *;clear hF hF1 hT;have hc4:c=4:=by omega
       subst hc4;intro K H p Zc Zu hlt Zk;have W5:=Yg hlt;refine Wp Tryz.func20 Zu hlt Zk ?_
       (refine Zm ?_;repeat'(first|(refine Zi fun _=>?_;try simp(disch:=first|exact Zw|fail)[*,Yd,Tryz.f20])|refine Zx ?_|refine Zn ?_ ?_))
   .obtain ⟨t,i1,a1,a2,a3,a4⟩:=Z67 (s:=s) hl hV hF hT hN hN0 hD0 hd (by omega) hi;refine⟨t,i1,a1,a2,a3,?_⟩;clear hF hF1 hT a3;intro K H p Zc Zu hlt Zk;have W5:=Yg hlt;refine Wp Tryz.func20 Zu hlt Zk ?_
    (refine Zm ?_;repeat'(first|(refine Zi fun _=>?_;try simp(disch:=first|exact Zw|fail)[*,Yd,Tryz.f20])|refine Zx ?_|refine Zn ?_ ?_))
 .exact (Z0q hl hV s h1 h4 hi _ (.inr Z3p)).mono (by omega) (by omega)
theorem Z6b (hl:xs.length<=400)(hV:VOk V):Zdg b xs V b2 3 7 0:=fun s h1 h4 i hi=>Z0q hl hV s h1 h4 hi _ (.inl (by simp))
theorem Zata (d:Nat):15<=NN d:=by
 induction d with
 |zero=>exact Nat.le_refl _
 |succ d ih=>simp only[NN];omega
theorem Zjy (hl:xs.length<=400)(hV:VOk V):∀d,d < 2^20->NN d < 2^29->Zdg b xs V b2 (d+4) (NN d) d/\Zk0 b xs V b2 (d+4) (NN d) d
 | 0,_,_=>⟨fun s h1 h4 i hi=>(Z6b hl hV s h1 h4 i hi).mono (by omega) (by simp[NN]),fun i hi=>Zu9 hl hV (Z6b hl hV) hi _ (.inl (by simp))⟩
 |d+1,h1,h2=>by
  have hn:3*NN d+1 < 2^29:=h2;obtain⟨hT,hF⟩:=Zjy hl hV d (by omega) (by omega);have hge:=Zata d
  have hF1:Zk0 b xs V b2 (d+4+1) (3*NN d+1) (d+1):=fun i hi=>by
   have:=Zacu hl hV hF hT (Z6b hl hV) (by omega) hge (by omega) (by omega) hi;simpa using this
  refine⟨fun s h1 h4 i hi=>?_,fun i hi=>?_⟩
  .have:=Zact hl hV hF hF1 hT (by omega) hge (by omega) (by omega) h1 h4 hi;rw[show d+1+4=d+4+1 by omega];simpa[NN]using this
  .rw [show d+1+4=d+4+1 by omega];exact hF1 i hi
end
def V0:List (Y9×Int):=[([120],2),([121],2),([122],3),([119],3),([112],1),([98],1),([97],4),([99],4)]
theorem Zaht:VOk V0:=⟨by unfold Zoj V0;decide +kernel,fun s h1 h4=>by
 have:s=1\/s=2\/s=3\/s=4:=by omega
 rcases this with rfl | rfl | rfl | rfl<;>decide,by decide⟩
theorem Zj8:Q3 V0:=by unfold Q3 V0;decide
theorem Zal2 (x:Y9)(s:Int):Xq vE 48 [.str x,.int .i64 s] (TL [⟨4,s,x,[],0⟩]):=by
 intro K H;refine Wc Tryz.func48 ?_
 (refine Zm ?_;repeat'(first|(refine Zi fun _=>?_;try simp(disch:=first|exact Zq|fail)[*,Yb,Tryz.f48,Zo])|refine Ye ?_|refine Zx ?_|refine Zn ?_ ?_))
theorem Z63 (b:Bool)(l:List Int)(hl:l.length < 2^63)(K:Pure.Loc)(H:PH):∃Zc h',Yh vE K 14 [L 3 b (l.map (.int .i64))] H=some (.ptr (H.next+9) Zc 0,h')/\h'.get (H.next+9)=some (Zc,chO b (l.take 400) 0)/\H.next+9 < h'.next/\∀j,j < H.next->h'.get j=H.get j:=by
 obtain⟨v,h',h1,Zc,rfl,h2⟩:=Zg2 (C:=vE) (K:=K) (f:=14) (args:=[L 3 b (l.map (.int .i64))]) (h:=H) (ok:=[]) (fn:=Tryz.f14) (R:=fun v h'=>∃Zc,v=.ptr (H.next+9) Zc 0/\h'.get (H.next+9)=some (Zc,chO b (l.take 400) 0)/\H.next+9 < h'.next/\∀j,j < H.next->h'.get j=H.get j) Tryz.func14 rfl rfl rfl (by simp) (by simp[reach]) (by simp) (by
  (refine Zm ?_;repeat'(first|(refine Zi fun _=>?_;try simp(disch:=first|exact Zw|fail)[*,Yd,Tryz.f14])|refine Zx ?_|refine Zn ?_ ?_))
  refine⟨?_,?_,fun j hj e=>by omega⟩
  .rw [<- Bool.not_eq_true,Nat.blt_eq];omega
  .have e:(min (400:Int) l.length).toNat=min 400 l.length:=by omega
   rw[e];cases l with
   |nil=>cases b<;>rfl
   |cons x l=>
    have e2:List.take (min 400 (x::l).length) ((x::l).map (PV.int IntKind.i64))=List.take 400 ((x::l).map (PV.int IntKind.i64)):=by
     rcases Nat.le_total (x::l).length 400 with h | h
     .rw [Nat.min_eq_right h,List.take_of_length_le (by simp),List.take_of_length_le (by simpa using h)]
     .rw [Nat.min_eq_left h]
    rw[e2];simp[L])
 exact⟨Zc,h',h1,h2⟩
inductive TermG:List Nd->Prop
 |plain {s:Int} {t:List Nd} (h1:1<=s) (h4:s<=4) (h:GT s 7 418 V0 t):TermG t
 |app {u:List Nd} (h:GT 2 7 418 V0 u):TermG (Xh ⟨5,2,[102],[],0⟩ [u])
 |con {u:List Nd} (h:GT 1 7 418 V0 u):TermG (Xh (opN 7) [u,[⟨4,1,[107],[],0⟩]])
theorem Zaon {b:Bool}{xs:List Int}(hl:xs.length<=400):Zdg b xs V0 false 7 418 3:=(Zjy (b2:=false) hl Zaht 3 (by omega) (by decide)).1
theorem Zaak:Xq vE 22 [] (VL V0 false):=by
 have e:VL V0 false=.lst 69 [Zik ([120],2),Zik ([121],2),Zik ([122],3),Zik ([119],3),Zik ([112],1),Zik ([98],1),Zik ([97],4),Zik ([99],4)]:=rfl;rw[e];intro K H;refine Wc Tryz.func22 ?_
 (refine Zm ?_;repeat'(first|(refine Zi fun _=>?_;try simp(disch:=first|exact Zq|fail)[*,Yb,Tryz.f22])|refine Ye ?_|refine Zx ?_|refine Zn ?_ ?_))
set_option maxHeartbeats 2000000 in
theorem Zak7 {b:Bool}{xs:List Int}{i:Nat}(hl:xs.length<=400)(hi:i<=xs.length):∃t i',i<=i'/\i'<=xs.length/\TermG t/\Gen 13 [] b xs i (TL t) i':=by
 obtain⟨v1,i1,hv1,Ro,Sk,g1⟩:=Yy (b:=b) hl hi 4 4 rfl (by omega) (by omega);obtain⟨t,i2,Qg,hb2,hT,g2⟩:=Zaon (b:=b) hl (1+v1) (by omega) (by omega) i1 Sk;obtain⟨v2,i3,hv2,ha3,hb3,g3⟩:=Yy (b:=b) hl hb2 4 4 rfl (by omega) (by omega);have h22:=Zaak;have h34:=Zzw true t hT.short (Nat.lt_of_le_of_lt hT.len (by omega));rw[hT.sort Zj8 (by omega) (by omega),Zok hT.ne]at h34;have hlen:=hT.len;simp only[Int.cast_ofNat_Int]at g2;by_cases hA:v2=0/\v1=1
 .rw [show (1+(v1:Int))=2 by omega]at g2 h34;obtain⟨rfl,rfl⟩:=hA;have h47:=Zcy ⟨5,2,[102],[],0⟩ [t] (by simp) (by simp;omega);simp only[List.map_cons,List.map_nil,Xe,Zo]at h47;refine⟨_,i3,by omega,hb3,.app hT,?_⟩;generalize Xh ⟨5,2,[102],[],0⟩ [t]=r at *;clear hT;intro K H p Zc Zu hlt Zk;have W5:=Yg hlt;refine Wp Tryz.func13 Zu hlt Zk ?_
  (refine Zm ?_;repeat'(first|(refine Zi fun _=>?_;try simp(disch:=first|exact Zw|fail)[*,Yd,Tryz.f13])|refine Zx ?_|refine Zn ?_ ?_))
 .obtain ⟨v3,i4,hv3,ha4,hb4,g4⟩:=Yy (b:=b) hl hb3 4 4 rfl (by omega) (by omega);by_cases hB:v3=0/\v1=0
  .rw [show (1+(v1:Int))=1 by omega]at g2 h34;obtain⟨rfl,rfl⟩:=hB;have h48:=Zal2 [107] 1;have h47:=Zcy (opN 7) [t,[⟨4,1,[107],[],0⟩]] (by simp) (by simp;omega);simp only[List.map_cons,List.map_nil,Xe,Zo]at h47;refine⟨_,i4,by omega,hb4,.con hT,?_⟩;generalize Xh (opN 7) [t,[⟨4,1,[107],[],0⟩]]=r at *;generalize [(⟨4,1,[107],[],0⟩:Nd)]=q at *;clear hT;by_cases h0:v2=0
   .subst h0;intro K H p Zc Zu hlt Zk;have W5:=Yg hlt;refine Wp Tryz.func13 Zu hlt Zk ?_
    (refine Zm ?_;repeat'(first|(refine Zi fun _=>?_;try simp(disch:=first|exact Zw|fail)[*,Yd,Tryz.f13])|refine Zx ?_|refine Zn ?_ ?_))
   .intro K H p Zc Zu hlt Zk;have W5:=Yg hlt;refine Wp Tryz.func13 Zu hlt Zk ?_
    (refine Zm ?_;repeat'(first|(refine Zi fun _=>?_;try simp(disch:=first|exact Zw|fail)[*,Yd,Tryz.f13])|refine Zx ?_|refine Zn ?_ ?_))
  .refine ⟨t,i4,by omega,hb4,.plain (by omega) (by omega) hT,?_⟩;clear hT;obtain⟨s,hs⟩:∃s,(1+v1:Int)=s:=⟨_,rfl⟩
   have e1:v2=0->s≠2:=by omega
   have e2:v3=0->s≠1:=by omega
   rw[hs]at g2 h34;by_cases h0:v2=0
   .have e1':=e1 h0;by_cases h3:v3=0
    .have e2':=e2 h3;clear e1 e2 hA hB;subst h0 h3;intro K H p Zc Zu hlt Zk;have W5:=Yg hlt;refine Wp Tryz.func13 Zu hlt Zk ?_
     (refine Zm ?_;repeat'(first|(refine Zi fun _=>?_;try simp(disch:=first|exact Zw|fail)[*,Yd,Tryz.f13])|refine Zx ?_|refine Zn ?_ ?_))
    .clear e1 e2 hA hB;subst h0;have h3':((v3:Int)==0)=false:=by simp;omega
     intro K H p Zc Zu hlt Zk;have W5:=Yg hlt;refine Wp Tryz.func13 Zu hlt Zk ?_
     (refine Zm ?_;repeat'(first|(refine Zi fun _=>?_;try simp(disch:=first|exact Zw|fail)[*,Yd,Tryz.f13])|refine Zx ?_|refine Zn ?_ ?_))
   .have h0':((v2:Int)==0)=false:=by simp;omega
    by_cases h3:v3=0
    .have e2':=e2 h3;clear e1 e2 hA hB;subst h3;intro K H p Zc Zu hlt Zk;have W5:=Yg hlt;refine Wp Tryz.func13 Zu hlt Zk ?_
     (refine Zm ?_;repeat'(first|(refine Zi fun _=>?_;try simp(disch:=first|exact Zw|fail)[*,Yd,Tryz.f13])|refine Zx ?_|refine Zn ?_ ?_))
    .clear e1 e2 hA hB;have h3':((v3:Int)==0)=false:=by simp;omega
     intro K H p Zc Zu hlt Zk;have W5:=Yg hlt;refine Wp Tryz.func13 Zu hlt Zk ?_
     (refine Zm ?_;repeat'(first|(refine Zi fun _=>?_;try simp(disch:=first|exact Zw|fail)[*,Yd,Tryz.f13])|refine Zx ?_|refine Zn ?_ ?_))
end Go.Proofs.YtabcdhcpilpojaaGreatDoor
end
