/-
  For every input of bulk at most 1048576, with the listed variable as the text lays it: TrimSmaller returns true and leaves all that came in as it was.
-/
import Derived.Test.YtbelmkceegmdjaaGreatDoorCTX
import Derived.Test.YtbelmkceegmdjaaGreatDoorCDK
set_option linter.unusedVariables false
set_option linter.unusedSimpArgs false
set_option linter.unnecessarySimpa false
set_option maxHeartbeats 0
namespace Go.PI.Tryz
open Go.Proofs Go.PI
theorem vN8:∀ (n:Nat) (x:NodeL),SizeOf.sizeOf x<n->x.all.length=x.cnt:=by
 intro n
 induction n with
 | zero=>intro x h; omega
 | succ n ih =>
   intro x hx
   have key:∀ i,i<=x.kids.length->(x.upto i).length=1+((x.kids.take i).map NodeL.cnt).sum:=by
    intro i
    induction i with
    | zero=>intro _; simp[NodeL.upto_zero]
    | succ i ihi =>
      intro hi;have hm:=zAX (l:=x.kids) (show i<x.kids.length by omega);rw[x.upto_succ zom,rAU,rAM,ihi zom,ih _ (by have:=NodeL.sizeOf_kid hm; omega),rA0 zom,rBB,rDC];simp[rAS x.kids i zom];omega
   rw[x.all_eq,key _ (rAO _),rBP,x.cnt_eq]
theorem mem_all{n:NodeL}{p:List DecL}{m:NodeL}:(p,m)∈n.all↔(p=[]/\m=n)\/∃ i p',i<n.kids.length/\p=vCD n i::p'/\(p',m)∈n.kids[i]!.all:=by
 rw[NodeL.all,rA7]
 have e:(p,m)∈(n.kids.zipIdx.attach.flatMap fun⟨p,_⟩=>(NodeL.all p.1).map fun q=>(vCD n p.2::q.1,q.2))↔∃ i p',i<n.kids.length/\p=vCD n i::p'/\(p',m)∈n.kids[i]!.all:=by
  rw[rFN (g:=fun p:NodeL×Nat=>(NodeL.all p.1).map fun q=>(vCD n p.2::q.1,q.2)) (fun _ _=>rfl)];simp only[List.unattach_attach,rEA,rA5,rEI];constructor
  .rintro⟨⟨k,i⟩,hk,⟨p',m'⟩,hq,rfl,rfl⟩
   have h:=rDX.1 hk;simp only at h;obtain⟨hi,rfl⟩:=rAP.1 h;exact⟨i,p',hi,rfl,by rw[rAS n.kids i hi]; exact hq⟩
  .rintro⟨i,p',hi,rfl,hq⟩
   refine⟨(n.kids[i],i),rDX.2 (rAR hi),(p',m),?_,rfl,rfl⟩;rw[rAS n.kids i hi]at hq;exact hq
 rw[e];simp only[rEI]
def Sh(c n:NodeL):Prop:=∀ p m,(p,m)∈c.all->∃ p' m',(p',m')∈n.all/\p.length<=p'.length
theorem zN8(n:NodeL):Sh n n:=fun p m h=>⟨p,m,h,rAO _⟩
theorem Sh.trans{a b c:NodeL}(h1:Sh a b)(h2:Sh b c):Sh a c:=fun p m h=>by
 obtain⟨p1,m1,g1,l1⟩:=h1 p m h;obtain⟨p2,m2,g2,l2⟩:=h2 p1 m1 g1;exact⟨p2,m2,g2,zom⟩
theorem zG1{c n:NodeL}(hl:c.kids.length=n.kids.length)(hk:∀ i,i<n.kids.length->Sh c.kids[i]! n.kids[i]!):Sh c n:=fun p m h=>by
 rcases mem_all.1 h with⟨rfl,rfl⟩ | ⟨i,p',hi,rfl,hm⟩
 .exact⟨[],n,mem_all.2 (rAW ⟨rfl,rfl⟩),rAO _⟩
 .obtain⟨p2,m2,g2,l2⟩:=hk i zom p' m hm
  exact⟨vCD n i::p2,m2,mem_all.2 (rAZ ⟨i,p2,zom,rfl,g2⟩),by simp only[List.length_cons]; omega⟩
theorem vUT{n:NodeL}{i:Nat}(hi:i<n.kids.length):Sh n.kids[i]! n:=fun p m h=>⟨vCD n i::p,m,mem_all.2 (rAZ ⟨i,p,hi,rfl,h⟩),zsm⟩
theorem vL4{c n:NodeL}(h:c.kids=n.kids):Sh c n:=zG1 (by rw[h]) fun i _=>by rw[h]; exact zN8 _
theorem zKJ{α:Type}[Inhabited α]{f:α->α}{l:List α}{i:Nat}(h:i<l.length):(l.map f)[i]! = f l[i]! := by
 rw[rAS (l.map f) i (by simpa using h),rAS l i h]; simp
theorem vUV(f:RowL->RowL):∀ (k:Nat) (n:NodeL),SizeOf.sizeOf n<k->Sh (vCL f n) n:=by
 intro k
 induction k with
 | zero=>intro n h; omega
 | succ k ih =>
   intro n h;refine zG1 (by rw[zDW,rAM]) fun i hi=>?_
   rw[zDW,zKJ hi];exact ih _ (by have:=NodeL.sizeOf_kid (get_mem hi); omega)
theorem vUU:∀ (k:Nat) (n:NodeL) (b:Int) (R:List Int),SizeOf.sizeOf n<k->Sh (vCU n b R) n:=by
 intro k
 induction k with
 | zero=>intro n b R h; omega
 | succ k ih =>
   intro n b R h;obtain⟨b',R',e⟩:∃ b' R',(vCU n b R).kids=n.kids.map fun k=>vCU k b' R':=⟨_,_,by rw[zD0]; exact zET _ _ _⟩
   refine zG1 (by rw[e,rAM]) fun i hi=>?_
   rw[e,zKJ hi];exact ih _ _ _ (by have:=NodeL.sizeOf_kid (get_mem hi); omega)
theorem vL3{n:NodeL}{i:Nat}{p:Int}(hi:i<n.kids.length):Sh (vBY n i p) n :=
 ((vL4 (c:=vBY n i p) (n:=vCL (vCV (-1) p) n.kids[i]!) rfl).trans (vUV _ _ _ (rAL _))).trans (vUT hi)
theorem zIC{g:Nat->NodeL}{m i:Nat}(h:i<m):((List.range m).map g)[i]! = g i:=by
 rw[rAS _ i (by simpa using h)]; simp
theorem vUS:∀ (f:Nat) (n:NodeL) (S:ScpL),n.cnt<f->Sh (vCH S n) n:=by
 intro f
 induction f with
 | zero=>intro n S h; omega
 | succ f ih =>
   intro n S hf;cases h:vB7 S n with
   | some i =>
     rw[zCE h];have hi:=(zBG h).1;have h1:=zCI (p:=S.path.length) hi;exact(ih _ S zom).trans (vL3 hi)
   | none =>
     rw[zCF h];refine zG1 (by show((List.range n.kids.length).map _).length=_; simp) fun i hi=>?_
     show Sh ((List.range n.kids.length).map fun i=>vCH (vDT S n i) n.kids[i]!)[i]! n.kids[i]!
     rw[zIC hi];have h1:=zC3 hi;exact ih _ _ zom
theorem zKZ:∀ (l:List (List DecL×NodeL)) (d:Int),d<=l.foldl (fun d q=>max d (q.1.length:Int)) d/\∀ q∈l,(q.1.length:Int)<=l.foldl (fun d q=>max d (q.1.length:Int)) d
 | [],d=>⟨rE3 _,fun q h=>by cases h⟩
 | a::l,d=>by
   obtain⟨h1,h2⟩:=zKZ l (max d (a.1.length:Int));simp only[List.foldl_cons];refine⟨zom,fun q hq=>?_⟩;rcases rA7.1 hq with rfl | hq
   .omega
   .exact h2 q hq
theorem zKY:∀ (l:List (List DecL×NodeL)) (d D:Int),d<=D->(∀ q∈l,(q.1.length:Int)<=D)->l.foldl (fun d q=>max d (q.1.length:Int)) d<=D
 | [],d,D,h,_=>h
 | a::l,d,D,h,hl=>by
   simp only[List.foldl_cons];exact zKY l _ D (by have:=hl a zsm; omega) fun q hq=>hl q (rA8 _ hq)
theorem vOP{c n:NodeL}(hc:c.valid=true)(hn:n.valid=true)(h:Sh c n):vEA (vBZ c)<=vEA (vBZ n):=by
 unfold vBZ;rw[rAV hc,rAV hn];obtain⟨g1,g2⟩:=zKZ n.all 0;refine zKY c.all 0 _ g1 fun q hq=>?_
 obtain⟨p',m',h1,h2⟩:=h q.1 q.2 hq;have:=g2 _ h1;unfold vEA;dsimp only at this;omega
def lnF(n:NodeL):Nat:=n.lemmas.length
theorem vX1(f:RowL->RowL):∀ (k:Nat) (n:NodeL),SizeOf.sizeOf n<k->(vCL f n).tot lnF=n.tot lnF:=by
 intro k
 induction k with
 | zero=>intro n h; omega
 | succ k ih =>
   intro n h;rw[NodeL.tot_eq,NodeL.tot_eq lnF n,zDW,rB7];have e1:n.kids.map (NodeL.tot lnF∘vCL f)=n.kids.map (NodeL.tot lnF):=rBH fun x hx=>ih x (by have:=NodeL.sizeOf_kid hx; omega)
   rw[e1];unfold lnF;rw[zE3,rAM]
theorem vNH{n:NodeL}{i:Nat}{p:Int}(hi:i<n.kids.length):(vBY n i p).tot lnF<=n.tot lnF:=by
 have h1:=zLP (f:=lnF) (get_mem hi);have h2:=vX1 (vCV (-1) p) _ n.kids[i]! (rAL _);rw[NodeL.tot_eq]at h2
 have h3:(vBY n i p).tot lnF=(n.lemmas++(vCL (vCV (-1) p) n.kids[i]!).lemmas).length+((vCL (vCV (-1) p) n.kids[i]!).kids.map (NodeL.tot lnF)).sum:=by
  rw[NodeL.tot_eq]; rfl
 rw[rAU]at h3;unfold lnF at h1 h2 h3 ⊢;omega
theorem zN1{α:Type}{f g:α->Nat}:∀ {l:List α},(∀ x∈l,f x<=g x)->(l.map f).sum<=(l.map g).sum
 | [],_=>rAO _
 | a::l,h=>by
   have h1:=h a zsm;have h2:=zN1 (l:=l) fun x hx=>h x (rA8 _ hx)
   simp only[rBJ,List.sum_cons]; omega
theorem vX0:∀ (k:Nat) (n:NodeL) (b:Int) (R:List Int),SizeOf.sizeOf n<k->(vCU n b R).tot lnF<=n.tot lnF:=by
 intro k
 induction k with
 | zero=>intro n b R h; omega
 | succ k ih =>
   intro n b R h;obtain⟨b',R',e⟩:∃ b' R',(vCU n b R).kids=n.kids.map fun k=>vCU k b' R':=⟨_,_,by rw[zD0]; exact zET _ _ _⟩
   rw[NodeL.tot_eq,NodeL.tot_eq lnF n,e,rB7];have h1:(n.kids.map (NodeL.tot lnF∘fun k=>vCU k b' R')).sum<=(n.kids.map (NodeL.tot lnF)).sum:=zN1 fun x hx=>ih x _ _ (by have:=NodeL.sizeOf_kid hx; omega)
   have h2:lnF (vCU n b R)<=lnF n:=by
    unfold lnF;rw[zD0];show((vBS _ _).map _).length<=_
    rw[rAM];exact zHZ _ _
   omega
theorem vXZ:∀ (f:Nat) (n:NodeL) (S:ScpL),n.cnt<f->(vCH S n).tot lnF<=n.tot lnF:=by
 intro f
 induction f with
 | zero=>intro n S h; omega
 | succ f ih =>
   intro n S hf;cases h:vB7 S n with
   | some i =>
     rw[zCE h];have hi:=(zBG h).1;have h1:=zCI (p:=S.path.length) hi;have h2:=ih _ S (by omega:(vBY n i S.path.length).cnt<f);have h3:=vNH (p:=S.path.length) hi;omega
   | none =>
     rw[zCF h,NodeL.tot_eq,NodeL.tot_eq lnF n]
     have e:n.kids=(List.range n.kids.length).map fun i=>n.kids[i]! := by
      refine rDA zsm fun i h1 h2=>?_
      rw[rDF,rDY,rAS n.kids i h1]
     show lnF n+(((List.range n.kids.length).map fun i=>vCH (vDT S n i) n.kids[i]!).map (NodeL.tot lnF)).sum<=_
     have e2:(n.kids.map (NodeL.tot lnF)).sum=((List.range n.kids.length).map fun i=>(n.kids[i]!).tot lnF).sum:=by
      conv=>lhs; rw[e]
      rw[rB7]; rfl
     rw[e2,rB7]
     have:=zN1 (l:=List.range n.kids.length) (f:=NodeL.tot lnF∘fun i=>vCH (vDT S n i) n.kids[i]!) (g:=fun i=>(n.kids[i]!).tot lnF) fun i hi=>by
      have hi':i<n.kids.length:=by simpa using hi
      have h1:=zC3 hi';exact ih _ _ zom
     omega
theorem zLR{q:QryL}{P V v:Nat}{n:NodeL}(h:AccT q P V v n):(vC0 q n).cnt<=n.cnt/\Sh (vC0 q n) n/\(vC0 q n).tot lnF<=n.tot lnF:=by
 have e:vC0 q n=vCH ⟨q,[],[]⟩ (vBN n):=rfl;rw[e];have h1:=vGU _ (vBN n) ⟨q,[],[]⟩ (rAL _);have h2:=vUS _ (vBN n) ⟨q,[],[]⟩ (rAL _);have h3:=vXZ _ (vBN n) ⟨q,[],[]⟩ (rAL _);rw[zKN h.val]at h1 h2 h3 ⊢;have g1:=vNS _ n 0 [] (rAL _);have g2:=vUU _ n 0 [] (rAL _);have g3:=vX0 _ n 0 [] (rAL _);exact⟨zom,h2.trans g2,zom⟩
theorem zPU{q:QryL}{P V v:Nat}:∀ (f:Nat) (n:NodeL),n.wt<f->AccT q P V v n->(vCM q n).cnt<=n.cnt/\Sh (vCM q n) n/\(vCM q n).tot lnF<=n.tot lnF:=by
 intro f
 induction f with
 | zero=>intro n h; omega
 | succ f ih =>
   intro n hf h;rw[zLL h]
   split
   .exact⟨rAO _,zN8 _,rAO _⟩
   .rename_i hne
    have:=(zI7 h).2.1 hne;obtain⟨a1,a2,a3⟩:=zLR h;obtain⟨g1,g2,g3⟩:=ih (vC0 q n) zom (zIW h);exact⟨zom,g2.trans a2,zom⟩
theorem zPV{q:QryL}{P V v:Nat}{n:NodeL}(h:AccT q P V v n):vCM q (vCM q n)=vCM q n:=by
 obtain⟨h1,h2,_⟩:=zGI _ n (rAL _) h;rw[zLL h1,rAV h2]
theorem uJJ(n:NodeL):n.tot lnF<=n.wt:=by
 rw[zPP _ n (rAL _)];refine uFE (fun m=>?_) _ n (rAL _);unfold lnF wtF;have:=zGS m.lemmas;omega
theorem zL2:FO 25 Tryz.f25 [.tmp 2] 24:=mkO Tryz.func25 Tryz.ntmps25 Tryz.results25
theorem zLD:∀ (k:Nat) (n:NodeL),SizeOf.sizeOf n<k->n.Sm->n.wt<=1048576->Fn 25 [vA7 n] (.data (.int .i64 (n.tot lnF:Nat))):=by
 intro k
 induction k with
 | zero=>intro n h; omega
 | succ k ih =>
   intro n hk hs hw;have hkn:=hs.len;have hw1:=n.wt_eq;have hll:=zIM n.lemmas
   have htot:∀ i,i<=n.kids.length->((n.kids.take i).map (NodeL.tot lnF)).sum+n.lemmas.length<=1048576:=fun i hi=>by
    have h1:=uJJ n;rw[NodeL.tot_eq]at h1
    have h2:((n.kids.take i).map (NodeL.tot lnF)).sum<=(n.kids.map (NodeL.tot lnF)).sum:=by
     conv=>rhs; rw[<- rCP i n.kids]
     rw[rBB,rDC]; omega
    unfold lnF at h1 h2;unfold lnF;omega
   refine zAM vBC hT zL2 zsm ?_
   (repeat' (first|refine stn ?_|(with_reducible refine brr ?_ ?_<;>intro h)|(with_reducible refine zAF ?_ ?_<;>intro h)|with_reducible refine zAL ?_ ?_)); all_goals try (conv=>whnf)
   refine zAO hT (fun i:Nat=>[(1,.cptr (vA7 n) 0),(3,.int .i64 ((((n.kids.take i).map (NodeL.tot lnF)).sum+n.lemmas.length:Nat):Int)),(4,.int .i64 i)]) (fun _=>[]) [] 0 (fun i=>i<=n.kids.length) (fun i=>n.kids.length - i) 0 (rA9 _) zdd zsm ?_ ?_
   .exact⟨[],[0],[(1,.cptr (vA7 n) 0)],[],⟨⟨⟨_,rfl⟩,rGW⟩,⟨⟨6,[0],zCV rfl,rfl⟩,rGW⟩,rGW⟩,⟨zAH rfl,zAC rfl zsm,zAC rfl rfl,rGW⟩,rGW,rAA⟩
   intro i hi;by_cases hi':i<n.kids.length
   .have hkm:n.kids[i]! ∈ n.kids:=zAX hi'
    have hkw:=zFF (f:=NodeL.wt) hkm;have ck:=ih n.kids[i]! (by have:=NodeL.sizeOf_kid hkm; omega) (hs.kid hkm) zom;have h1:=htot (i+1) zom;have h2:=zD6 (f:=NodeL.tot lnF) hi'
    (repeat' (first|refine stn ?_|(with_reducible refine brr ?_ ?_<;>intro h)|(with_reducible refine zAF ?_ ?_<;>intro h)|with_reducible refine zAL ?_ ?_)); all_goals try (conv=>whnf)
    all_goals try (exfalso; omega)
    refine zAA ck rfl ?_
    (repeat' (first|refine stn ?_|(with_reducible refine brr ?_ ?_<;>intro h)|(with_reducible refine zAF ?_ ?_<;>intro h)|with_reducible refine zAL ?_ ?_)); all_goals try (conv=>whnf)
    exact⟨i+1,⟨zom,zom⟩,[],[],[],[],ttt,⟨zAH rfl,zAC rfl zom,zAC rfl zom,rGW⟩,rGW,rAA⟩
   .obtain rfl:i=n.kids.length:=by omega
    have e:n.tot lnF=((n.kids.take n.kids.length).map (NodeL.tot lnF)).sum+n.lemmas.length:=by
     rw[NodeL.tot_eq,rBP]; unfold lnF; omega
    (repeat' (first|refine stn ?_|(with_reducible refine brr ?_ ?_<;>intro h)|(with_reducible refine zAF ?_ ?_<;>intro h)|with_reducible refine zAL ?_ ?_)); all_goals try (conv=>whnf)
    all_goals try (exfalso; omega)
    exact zAB rfl (by rw[e])
theorem zG4:FO 7 Tryz.f7 [.tmp 4] 70:=mkO Tryz.func7 Tryz.ntmps7 Tryz.results7
theorem vIG(q:QryL)(n:NodeL)(Bq Bn:Nat)(hi:inB q n Bq Bn)(hr:NodeRg n):Fn 7 [vBI q,vA7 n] (.data (.bool true)):=by
 have hwb:=hi.wt;have hBB:=hi.B;obtain⟨b,hb,cf⟩:=vIK q n zom hi.q.g.1.1 hi.q.r.2.2.2;cases b with
 | true =>
   obtain⟨f1,f2,f3,f4⟩:=hb rfl;have hS:=vP6 hi zom hr;have hq:=hS.q;have hv:=hS.hv;have hB:=hS.B;have c1:=vIF q _ _ _ n hS;unfold vLU at c1;by_cases h0:(vCK q n).2=0
   .have hA:=hS.acc h0
    rw[rAV h0]at c1;obtain⟨A3,g2,g3⟩:=zGI _ n (rAL _) hA;have S3:=A3.inS hq hv hB;have c2:=vIF q _ _ _ (vCM q n) S3;unfold vLU at c2;rw[A3.tree,rAV rfl,zPV hA]at c2;obtain⟨k1,k2,k3⟩:=zPU _ n (rAL _) hA;have ce:=vS7 _ (vCM q n) (vCM q n) (rAL _) S3.sm.1;rw[rB4 rfl]at ce;have s1:=vLA (vCM q n) S3.sm.1 zom;have s2:=vLA n hS.sm.1 zom;have d1:=zQT (vCM q n) S3.sm.1 zom;have d2:=zQT n hS.sm.1 zom;have n1:=zLD _ (vCM q n) (rAL _) S3.sm.1 zom;have n2:=zLD _ n (rAL _) hS.sm.1 zom
    have l1:(vBZ (vCM q n)).length<=(vBZ n).length:=by
     unfold vBZ;rw[rAV A3.val,rAV hA.val,vN8 _ _ (rAL _),vN8 _ _ (rAL _)];exact k1
    have l2:=vOP A3.val hA.val k2;generalize vCM q n=c at *
    generalize vEA (vBZ c)=dc at *
    generalize vEA (vBZ n)=dn at *
    generalize (vBZ c).length=ac at *
    generalize (vBZ n).length=an at *
    generalize c.tot lnF=tc at *
    generalize n.tot lnF=tn at *
    refine zAM vBC hT zG4 (by simp[vBI]) ?_
    (repeat' (first|refine stn ?_|(with_reducible refine brr ?_ ?_<;>intro h)|(with_reducible refine zAF ?_ ?_<;>intro h)|with_reducible refine zAL ?_ ?_)); all_goals try (conv=>whnf)
    refine zAA zC0 rfl ?_
    (repeat' (first|refine stn ?_|(with_reducible refine brr ?_ ?_<;>intro h)|(with_reducible refine zAF ?_ ?_<;>intro h)|with_reducible refine zAL ?_ ?_)); all_goals try (conv=>whnf)
    refine zAA cf rfl ?_
    (repeat' (first|refine stn ?_|(with_reducible refine brr ?_ ?_<;>intro h)|(with_reducible refine zAF ?_ ?_<;>intro h)|with_reducible refine zAL ?_ ?_)); all_goals try (conv=>whnf)
    refine zAA c1 rfl ?_
    (repeat' (first|refine stn ?_|(with_reducible refine brr ?_ ?_<;>intro h)|(with_reducible refine zAF ?_ ?_<;>intro h)|with_reducible refine zAL ?_ ?_)); all_goals try (conv=>whnf)
    refine zAA c2 rfl ?_
    (repeat' (first|refine stn ?_|(with_reducible refine brr ?_ ?_<;>intro h)|(with_reducible refine zAF ?_ ?_<;>intro h)|with_reducible refine zAL ?_ ?_)); all_goals try (conv=>whnf)
    refine zAA ce rfl ?_
    (repeat' (first|refine stn ?_|(with_reducible refine brr ?_ ?_<;>intro h)|(with_reducible refine zAF ?_ ?_<;>intro h)|with_reducible refine zAL ?_ ?_)); all_goals try (conv=>whnf)
    refine zAA s1 rfl ?_
    (repeat' (first|refine stn ?_|(with_reducible refine brr ?_ ?_<;>intro h)|(with_reducible refine zAF ?_ ?_<;>intro h)|with_reducible refine zAL ?_ ?_)); all_goals try (conv=>whnf)
    refine zAA s2 rfl ?_
    (repeat' (first|refine stn ?_|(with_reducible refine brr ?_ ?_<;>intro h)|(with_reducible refine zAF ?_ ?_<;>intro h)|with_reducible refine zAL ?_ ?_)); all_goals try (conv=>whnf)
    all_goals try (exfalso; omega)
    refine zAA d1 rfl ?_
    (repeat' (first|refine stn ?_|(with_reducible refine brr ?_ ?_<;>intro h)|(with_reducible refine zAF ?_ ?_<;>intro h)|with_reducible refine zAL ?_ ?_)); all_goals try (conv=>whnf)
    refine zAA d2 rfl ?_
    (repeat' (first|refine stn ?_|(with_reducible refine brr ?_ ?_<;>intro h)|(with_reducible refine zAF ?_ ?_<;>intro h)|with_reducible refine zAL ?_ ?_)); all_goals try (conv=>whnf)
    all_goals try (exfalso; omega)
    refine zAA n1 rfl ?_
    (repeat' (first|refine stn ?_|(with_reducible refine brr ?_ ?_<;>intro h)|(with_reducible refine zAF ?_ ?_<;>intro h)|with_reducible refine zAL ?_ ?_)); all_goals try (conv=>whnf)
    refine zAA n2 rfl ?_
    (repeat' (first|refine stn ?_|(with_reducible refine brr ?_ ?_<;>intro h)|(with_reducible refine zAF ?_ ?_<;>intro h)|with_reducible refine zAL ?_ ?_)); all_goals try (conv=>whnf)
    exact zAB rfl (rA3 PV.bool (rB4 zom))
   .rw[rAN h0]at c1
    generalize (vCK q n).2=e at *
    refine zAM vBC hT zG4 (by simp[vBI]) ?_
    (repeat' (first|refine stn ?_|(with_reducible refine brr ?_ ?_<;>intro h)|(with_reducible refine zAF ?_ ?_<;>intro h)|with_reducible refine zAL ?_ ?_)); all_goals try (conv=>whnf)
    refine zAA zC0 rfl ?_
    (repeat' (first|refine stn ?_|(with_reducible refine brr ?_ ?_<;>intro h)|(with_reducible refine zAF ?_ ?_<;>intro h)|with_reducible refine zAL ?_ ?_)); all_goals try (conv=>whnf)
    refine zAA cf rfl ?_
    (repeat' (first|refine stn ?_|(with_reducible refine brr ?_ ?_<;>intro h)|(with_reducible refine zAF ?_ ?_<;>intro h)|with_reducible refine zAL ?_ ?_)); all_goals try (conv=>whnf)
    refine zAA c1 rfl ?_
    (repeat' (first|refine stn ?_|(with_reducible refine brr ?_ ?_<;>intro h)|(with_reducible refine zAF ?_ ?_<;>intro h)|with_reducible refine zAL ?_ ?_)); all_goals try (conv=>whnf)
    all_goals try (exfalso; omega)
    exact rGX
 | false =>
   refine zAM vBC hT zG4 (by simp[vBI]) ?_
   (repeat' (first|refine stn ?_|(with_reducible refine brr ?_ ?_<;>intro h)|(with_reducible refine zAF ?_ ?_<;>intro h)|with_reducible refine zAL ?_ ?_)); all_goals try (conv=>whnf)
   refine zAA zC0 rfl ?_
   (repeat' (first|refine stn ?_|(with_reducible refine brr ?_ ?_<;>intro h)|(with_reducible refine zAF ?_ ?_<;>intro h)|with_reducible refine zAL ?_ ?_)); all_goals try (conv=>whnf)
   refine zAA cf rfl ?_
   (repeat' (first|refine stn ?_|(with_reducible refine brr ?_ ?_<;>intro h)|(with_reducible refine zAF ?_ ?_<;>intro h)|with_reducible refine zAL ?_ ?_)); all_goals try (conv=>whnf)
   refine zAA zC0 rfl ?_
   (repeat' (first|refine stn ?_|(with_reducible refine brr ?_ ?_<;>intro h)|(with_reducible refine zAF ?_ ?_<;>intro h)|with_reducible refine zAL ?_ ?_)); all_goals try (conv=>whnf)
   exact rGX
end Go.PI.Tryz
namespace Go.Proofs.YtbelmkceegmdjaaGreatDoor
open Go Go.PI Go.PI.Tryz
open Go.ChangeShapes Go.WideShapes Go.ChangeAt Go.RowKit
theorem vPK:FO 7 Tryz.f7 [.tmp 4] 70:=mkO Tryz.func7 Tryz.ntmps7 Tryz.results7
set_option maxRecDepth 100000 in
theorem trimSmaller_contract(H:Type)(enc:TypeId×Value->H)(W:World)(args:Array Value)(ds gs:List (DataW H))(before:List MemPlace)(base:Nat)(hb:Rows.uptoBulkAll ds<=1048576)
 (hvl:∀ (j:Nat) t v,Tryz.f7.params[j]?=some t->args[j]?=some v->Value.okWide Tryz.prog W .any base t v)
 (hW:DataW.Whole enc Tryz.prog Tryz.f7.params.toList Rows.trimSmallerSpec.vars false W args.toList ds gs before) (hL:laidMetH Tryz.prog vYC W) :
 Calls Tryz.prog 7 args W fun e W'=>∃ v,e=.returned v/\Rows.trimSmallerSpec.post enc Tryz.prog Tryz.f7 false true false false W args v W':=by
 have hW':=hW;obtain⟨p,q,hA0,hV,hpq,hfz,hnd⟩:=hW;have hA:DataW.TrodAll enc Tryz.prog W 0 (fun _=>true) true Tryz.f7.params.toList args.toList ds p:=hA0;rw[Tryz.params7]at hA hvl;obtain⟨v0,vs0,d0,ds0,p0,q0',hargs,rfl,hp0,⟨fuel0,h0⟩,r0⟩:=trodAll_cons hA;obtain⟨v1,vs1,d1,ds1,p1,q1',rfl,rfl,hp1,⟨fuel1,h1⟩,r1⟩:=trodAll_cons r0;obtain⟨rfl,rfl,rfl⟩:=trodAll_nil r1;have hargs2:args=#[v0,v1]:=by cases args; simp_all
 rw[hargs2]at hvl;simp only[zEF,vC1]at hb;obtain⟨x0,g0,q0⟩:=(uHW _) fuel0 (rAO _) _ _ _ h0;obtain⟨x1,g1,q1⟩:=(vVO _) fuel1 (rAO _) _ _ _ h1
 have hval:∀ (j:Nat) (d:PV),[vBI x0,vA7 x1][j]?=some d->RD W (vOB W) d (args.toList.getD j undef):=by
  intro j d hj;rw[hargs]
  match j,hj with
  | 0,hj=>cases hj; exact zP8 (zFC hvl 0 (t:=48) (v:=v0) rfl rfl Tryz.underlying48) g0
  | 1,hj=>cases hj; exact zP8 (zFC hvl 1 (t:=32) (v:=v1) rfl rfl Tryz.underlying32) g1
  | n+2,hj=>simp at hj
 refine vHZ (G:=G0) laidOut rAB rfl Tryz.underlying4 rfl (fun gs hgs=>by subst hgs; rfl) hW' (gok hL) (pvs:=[vBI x0,vA7 x1]) ⟨by rw[hargs]; rfl,hval⟩ ?_;obtain⟨hi,hr⟩:=vYH q0 q1 zom;exact vIG x0 x1 _ _ hi hr
theorem zIX(os:Os):laidMet Tryz.prog Rows.trimSmallerUptoRow.laid ((vC4 os).forCall (fun _ _=>0) ⟨#[],#[.agg #[.int .i64 0,.slice none 0 0,.slice none 0 0,.slice none 0 0,.slice none 0 0,.slice none 0 0,.slice none 0 0,.bool false,.slice none 0 0,.slice none 0 0],vFG],[]⟩).memory :=
 laidMet_of_run' 8 rAB rAB
theorem zLM(os:Os){H:Type}(enc:TypeId×Value->H):∃ places,DataW.whole enc Tryz.prog ((vC4 os).forCall (fun _ _=>0) ⟨#[],#[.agg #[.int .i64 0,.slice none 0 0,.slice none 0 0,.slice none 0 0,.slice none 0 0,.slice none 0 0,.slice none 0 0,.bool false,.slice none 0 0,.slice none 0 0],vFG],[]⟩).memory Tryz.f7.params.toList Rows.trimSmallerSpec.vars false (#[.agg #[.int .i64 0,.slice none 0 0,.slice none 0 0,.slice none 0 0,.slice none 0 0,.slice none 0 0,.slice none 0 0,.bool false,.slice none 0 0,.slice none 0 0],vFG]:Array Value).toList 8=some ([.agg [.agg [.lit (.int .i64 0),.nil,.nil],.agg [.nil,.nil,.nil],.agg [.nil,.agg [.lit (.bool false),.nil,.nil]]],uJ4],[],places) :=
 ⟨[],rAB⟩
set_option maxRecDepth 100000 in
theorem trimSmaller_lifted(os:Os)(started:os.Started)(H:Type)(enc:TypeId×Value->H)(F:Stop.Interp) :
 ReturnsInHanded {} Tryz.checked os 7 .any ((Rows.OpenSpec.upto Rows.trimSmallerSpec).preRow enc Tryz.prog Tryz.f7 Rows.trimSmallerUptoRow.domain false Rows.trimSmallerUptoRow.laid) (((Rows.OpenSpec.upto Rows.trimSmallerSpec).at F).post enc Tryz.prog Tryz.f7 false true false false):=by
 obtain⟨places,hx⟩:=zLM os enc
 refine returnsInHanded_of_row (C:=Tryz.checked) (s:=Rows.OpenSpec.upto Rows.trimSmallerSpec) own started rAB Tryz.func7
  (witness_row_at (enc:=enc) (C:=Tryz.checked) false (vC4 os) #[.agg #[.int .i64 0,.slice none 0 0,.slice none 0 0,.slice none 0 0,.slice none 0 0,.slice none 0 0,.slice none 0 0,.bool false,.slice none 0 0,.slice none 0 0],vFG] rfl rAB rAB rAB
    (OpenSpec.preRow_of_cond 8 hx rAB (fun k hk=>by cases hk; kernel_rfl) rAB (zIX os))) ?_
 intro W base args ds gs before hval hW _ hcond _ hL _ _;have hb:Rows.uptoBulkAll (ds++gs)<=1048576:=rB2 (hcond _ rfl);have hgs:gs=[]:=by obtain⟨p,q,_,hV,_⟩:=hW; exact(trodVars_none hV).1
 rw[hgs,rBS]at hb;exact trimSmaller_contract H enc W args ds gs before base hb hval hW hL
theorem zM5:Rows.TrimSmallerUptoSaid :=
 OpenClaim.holds_of_cond 7 Tryz.f7 rfl rfl rfl rfl rfl rfl rfl ⟨rfl,rfl,rfl,rfl,rfl⟩ rfl rfl rfl rfl rfl rAB Tryz.func7 rAB
  (rB2 rAB) (by unfold Func.isWrapper; first | (rw[rAV (by decide +kernel)]; kernel_rfl) | (rw[rAN (by decide +kernel)]; exact⟨rfl,rfl⟩))
  (fun os started H enc _ F=>by rw[OpenClaim.pre_eq_preRow]; exact trimSmaller_lifted os started H enc F)
theorem zLN (f : FuncId) (fn : Func) (hf : Tryz.pinned.checked.prog.funcNamed "relucert/relucertlaw49.TrimSmaller" = some f) (hfn : Tryz.pinned.checked.prog.funcs[f]? = some fn) :
 false=Tryz.pinned.checked.prog.looks []/\∀ (j:Nat) t,fn.params[j]?=some t->Tryz.pinned.checked.prog.wantsStandIn t=false:=by
 obtain rfl : f = 7 := rDM ((show Tryz.prog.funcNamed "relucert/relucertlaw49.TrimSmaller" = some 7 by kernel_rfl).symm.trans hf) |>.symm
 obtain rfl:fn=Tryz.f7:=(rDM (Tryz.func7.symm.trans hfn)).symm;refine⟨by kernel_rfl,fun j t ht=>?_⟩;rw[Tryz.params7]at ht;have hall:(#[48,32]:Array TypeId).all (fun t=>!Tryz.prog.wantsStandIn t)=true:=by kernel_rfl
 have hm:=rC1 ht;rw[rEM]at hall;have hq:=hall t hm;exact(by simpa using hq:Tryz.prog.wantsStandIn t=false)
theorem trimSmaller_holds:Rows.TrimSmallerUptoCardSaid :=
 Claim7.holds_tied_plain_at .later [] _ _ _ _ zM5 (fun _ h=>by cases h) rAB (fun _ h=>by cases h) trimSmallerUpto_row_tie rfl ⟨rfl,rfl⟩ rAB rfl zLN rAB
end Go.Proofs.YtbelmkceegmdjaaGreatDoor
