/-
  Trim, of the program and of the definition. The law TrimTrims.
-/
import Derived.Test.YtbelmkceegmdjaaGreatDoorKTL
import Derived.Test.YtbelmkceegmdjaaGreatDoorKPF
set_option linter.unusedVariables false
set_option linter.unusedSimpArgs false
set_option linter.unnecessarySimpa false
set_option maxHeartbeats 0
namespace Go.PI.Tryz
open Go.Proofs Go.PI
theorem uKE:∀ (k:Nat) (n:NodeL) (b:Int) (R:List Int),SizeOf.sizeOf n<k->(vC3 n b R).cnt=n.cnt:=by
 intro k
 induction k with
 | zero=>intro n b R h; omega
 | succ k ih =>
   intro n b R h;rw[zG2,NodeL.cnt_eq,n.cnt_eq,zKQ];show 1+((n.kids.map _).map NodeL.cnt).sum=_
   rw[rCQ]
   congr 2
   exact rBH fun x hx=>ih x _ _ (by have:=NodeL.sizeOf_kid hx; omega)
theorem vP6(n:NodeL)(b:Int)(R:List Int):(vC3 n b R).kids.length=n.kids.length:=by rw[zG2]; exact zKR _ _ _
theorem uEI:∀ (k:Nat) (n:NodeL) (b:Int) (R:List Int) (d:Nat),SizeOf.sizeOf n<k->vBH d (vC3 n b R)=vBH d n:=by
 intro k
 induction k with
 | zero=>intro n b R d h; omega
 | succ k ih =>
   intro n b R d h;have hl:=vP6 n b R;have hs:(vC3 n b R).split=n.split:=by rw[zG2]; rfl
   have he:(vC3 n b R).empty=n.empty:=by rw[zG2]; rfl
   have hp:(vC3 n b R).proof.length=n.proof.length:=by rw[zG2]; show(vBL _ _).length=_; simp[vBL]
   by_cases h0:n.kids.length=0
   .rw[zBI h0,zBI zom]; unfold vED; rw[hs]
   .rw[zA1 h0,zA1 zom]
    congr 1
    .congr 1
     unfold vBX;rw[hl,hs,he,hp]
    .obtain⟨b',R',e⟩:∃ b' R',(vC3 n b R).kids=n.kids.map fun k=>vC3 k b' R':=⟨_,_,by rw[zG2]; exact zKQ _ _ _⟩
     rw[e,List.all_map,rA1,rBG,rBG];have e:∀ x∈n.kids,vBH (d - 1) (vC3 x b' R')=vBH (d - 1) x:=fun x hx=>ih x _ _ _ (by have:=NodeL.sizeOf_kid hx; omega)
     exact⟨fun g x hx=>by have:=g x hx; rw[<- e x hx]; exact this,fun g x hx=>by have:=g x hx; rw[<- e x hx]at this; exact this⟩
theorem uAB:∀ {R O:List Int} {c b:Int},Asc c R->(∀ r∈R,r<b)->c<=b->Asc b O->Asc c (R++O)
 | [],O,c,b,_,_,hcb,hO=>by
   cases O with
   | nil=>trivial
   | cons x O=>exact⟨Int.le_trans hcb hO.1,hO.2⟩
 | r::R,O,c,b,hR,hlt,hcb,hO=>⟨hR.1,uAB hR.2 (fun x hx=>hlt x (rBC _ hx)) (by have:=hlt r zsm; omega) hO⟩
theorem uFT{R:List Int}(h:Asc 0 R){v:Int}(h1:-9223372036854775808<=v)(h2:v<9223372036854775808):-9223372036854775808<=vCI R v/\vCI R v<9223372036854775808:=by
 have hle:vCI R v<=v:=by unfold vCI; omega
 by_cases hv:v<=1
 .rw[vL6 h zom]; exact⟨h1,h2⟩
 .have:=vG0 h (by omega:(0:Int)+1<v)
  omega
theorem vOC{R:List Int}(h:Asc 0 R){l:List MultL}(hl:vCX l/\vCK l):vCX (vBL (vBY R) l)/\vCK (vBL (vBY R) l):=by
 obtain⟨⟨h1,h2⟩,h3⟩:=hl;refine⟨⟨by simpa [vBL]using h1,fun m hm=>?_⟩,uBE h3⟩;obtain⟨x,hx,rfl⟩:=rA5.1 hm;obtain⟨g1,g2⟩:=h2 x hx;exact⟨⟨uFT h g1.1.1 g1.1.2,uFT h g1.2.1 g1.2.2⟩,g2⟩
theorem uKD:∀ (k:Nat) (n:NodeL) (b:Int) (R:List Int),SizeOf.sizeOf n<k->0<=b->Asc 0 R->(∀ r∈R,r<b)->Tok n->Tok (vC3 n b R):=by
 intro k
 induction k with
 | zero=>intro n b R h; omega
 | succ k ih =>
   intro n b R hk hb hR hRb h;have hO:=zFU (ownB n.lemmas n.kids n.proof b) b;have hlt:=zI4 (ownB n.lemmas n.kids n.proof b) b;have hol:(ownB n.lemmas n.kids n.proof b).length=n.lemmas.length:=zD4 _ _ _;have hA:=uAB hR hRb hb hO
   have hAb:∀ r∈R++vB4 (ownB n.lemmas n.kids n.proof b) b,r<b+n.lemmas.length:=fun r hr=>by
    rcases rAX.1 hr with hr | hr
    .have:=hRb r hr; omega
    .have:=hlt r hr; omega
   rw[zG2];refine .mk _ (fun m hm=>?_) h.spl (vOC hA h.prf) (by show(vDQ _ _ _).length<_; rw[zKR]; exact h.kn) fun x hx=>?_
   .obtain⟨y,hy,rfl⟩:=rA5.1 (show m∈(vBS _ _).map _ from hm)
    have:=h.lem y (zHX _ _ y hy);exact⟨this.1,vOC hA this.2⟩
   .obtain⟨y,hy,rfl⟩:=vH6 _ _ _ x hx
    exact ih y _ _ (by have:=NodeL.sizeOf_kid hy; omega) zom hA hAb (h.kid y hy)
theorem vYV{P V v:Nat}:∀ (k:Nat) (n:NodeL) (b:Int) (R:List Int) (c:Nat),SizeOf.sizeOf n<k->NodeZ P V v c n->NodeZ P V v c (vC3 n b R):=by
 intro k
 induction k with
 | zero=>intro n b R c h; omega
 | succ k ih =>
   intro n b R c hk h;have hkl:=zN0 n.lemmas (ownB n.lemmas n.kids n.proof b);have hnum:=h.num;rw[zG2];refine .mk v c _ (fun m hm=>?_) (by show((vBS _ _).map _).length<=_; rw[rAN]; omega) (fun m hm=>?_) h.spl (zM7 h.prf) fun x hx=>?_
   .obtain⟨y,hy,rfl⟩:=rA5.1 (show m∈(vBS _ _).map _ from hm)
    exact h.val y (zHX _ _ y hy)
   .obtain⟨y,hy,rfl⟩:=rA5.1 (show m∈(vBS _ _).map _ from hm)
    have:=h.lem y (zHX _ _ y hy);exact⟨this.1,zM7 this.2⟩
   .obtain⟨y,hy,rfl⟩:=vH6 _ _ _ x hx
    refine(ih y _ _ _ (by have:=NodeL.sizeOf_kid hy; omega) (h.kid y hy)).more _ _ _ _ (rAL _) ?_;show _<=c - ((vBS _ _).map _).length
    rw[rAN]; omega
theorem zFE{n:NodeL}(h:n.valid=true):vBO n=vC3 n 0 []:=rAU h
theorem zL2{q:QryL}{P V v:Nat}{n:NodeL}(h:AccT q P V v n):AccT q P V v (vBO n):=by
 obtain⟨g1,g2⟩:=zBS h.val;rw[zFE h.val];refine⟨zEA (by rw[uEI _ _ _ _ _ (rAL _)]; exact g1) (by rw[uKE _ _ _ _ (rAL _)]; exact g2),h.va,?_,vYV _ _ _ _ _ (rAL _) h.z,uKD _ _ _ _ (rAL _) zom trivial (fun r hr=>by cases hr) h.tok,by have:=(vYU _ n 0 [] (rAL _)).1; have:=h.wt; omega⟩;exact vYW _ n ⟨q,[],[]⟩ ⟨q,[],[]⟩ [] 2048 (rAL _) g1 (uBG _) (fun k _ hlt hk=>by cases hk) h.bel
theorem uLD{q:QryL}{P V v:Nat}{n:NodeL}(h:AccT q P V v n):AccT q P V v (vCS ⟨q,[],[]⟩ n):=by
 obtain⟨g1,g2⟩:=zBS h.val;have hc:=vUH _ n ⟨q,[],[]⟩ (rAL _);exact⟨zEA (vN4 _ _ _ _ (rAL _) g1) zom,h.va,vI6 _ _ _ _ (rAL _) g1 h.bel,vI5 _ _ _ _ (rAL _) h.z,vUG _ _ _ (rAL _) h.tok,by have:=vI4 _ n ⟨q,[],[]⟩ (rAL _); have:=h.wt; omega⟩
theorem uL6:∀ (f:Nat) (n:NodeL) (S:ScpL),n.cnt<f->(vCS S n).wt=n.wt->vCS S n=n:=by
 intro f
 induction f with
 | zero=>intro n S h; omega
 | succ f ih =>
   intro n S hf hw;cases h:vCL S n with
   | some i =>
     rw[zC4 h]at hw;have h1:=zDF (p:=S.path.length) (zB3 h).1;have h2:=vI4 _ (vBZ n i S.path.length) S (rAL _);have h3:=vLH (p:=S.path.length) (zB3 h).1;omega
   | none =>
     rw[zDJ h]at hw ⊢;rw[NodeL.wt_eq,n.wt_eq]at hw;have hw:1+(n.lemmas.map vCD).sum+n.proof.length+(((List.range n.kids.length).map fun i=>vCS (vD2 S n i) n.kids[i]!).map NodeL.wt).sum=1+(n.lemmas.map vCD).sum+n.proof.length+(n.kids.map NodeL.wt).sum:=hw
     have e:n.kids=(List.range n.kids.length).map fun i=>n.kids[i]! := by
      refine rDS zsm fun i h1 h2=>?_
      rw[rD4,rE4,rAT n.kids i h1]
     have key:∀ l:List Nat,(∀ i∈l,i<n.kids.length)->((l.map fun i=>vCS (vD2 S n i) n.kids[i]!).map NodeL.wt).sum<=((l.map fun i=>n.kids[i]!).map NodeL.wt).sum/\(((l.map fun i=>vCS (vD2 S n i) n.kids[i]!).map NodeL.wt).sum=((l.map fun i=>n.kids[i]!).map NodeL.wt).sum->(l.map fun i=>vCS (vD2 S n i) n.kids[i]!)=l.map fun i=>n.kids[i]!):=by
      intro l
      induction l with
      | nil=>intro _; exact⟨rAR _,fun _=>rfl⟩
      | cons a l ihl =>
        intro hl;have ha:=hl a zsm;have h1:=zDU ha;have h2:=vI4 _ n.kids[a]! (vD2 S n a) (rAL _);obtain⟨h3,h4⟩:=ihl fun i hi=>hl i (rBC _ hi)
        simp only[rBM,List.sum_cons];refine⟨zom,fun he=>?_⟩;rw[ih n.kids[a]! (vD2 S n a) zom zom,h4 zom]
     have hk:=(key (List.range n.kids.length) fun i hi=>by simpa using hi).2;rw[<- e]at hk;rw[hk zom];cases n; rfl
noncomputable def vCW(q:QryL)(n:NodeL):NodeL:=vCS ⟨q,[],[]⟩ (vBO n)
noncomputable def vRF:Nat->QryL->NodeL->NodeL
 | 0,_,n=>n
 | f+1,q,n=>if vCW q n=n then n else vRF f q (vCW q n)
noncomputable def vDK(q:QryL)(n:NodeL):NodeL:=vRF n.wt q n
noncomputable def vGK(q:QryL)(n:NodeL):NodeL×Int:=if (vCF q n).2=0 then(vDK q n,0) else(vDW,(vCF q n).2)
theorem zIS{q:QryL}{P V v:Nat}{n:NodeL}(h:AccT q P V v n):AccT q P V v (vCW q n):=uLD (zL2 h)
theorem vX2{q:QryL}{P V v:Nat}{n:NodeL}(h:AccT q P V v n):(vBO n).wt<=n.wt/\((vBO n).wt=n.wt->vBO n=n):=by
 rw[zFE h.val];exact⟨(vYU _ n 0 [] (rAL _)).1,uNT⟩
theorem zHM{q:QryL}{P V v:Nat}{n:NodeL}(h:AccT q P V v n):(vCW q n).wt<=n.wt/\(vCW q n≠n->(vCW q n).wt<n.wt)/\(vCW q n=n->vBO n=n):=by
 obtain⟨h1,h2⟩:=vX2 h;have h3:=vI4 _ (vBO n) ⟨q,[],[]⟩ (rAL _);have e:vCW q n=vCS ⟨q,[],[]⟩ (vBO n):=rfl;rw[<- e]at h3;refine⟨zom,fun hne=>?_,fun he=>h2 (by rw[he]at h3; omega)⟩;refine rCG fun hlt=>hne ?_
 have h4:=h2 zom;have h5:=uL6 _ (vBO n) ⟨q,[],[]⟩ (rAL _) (by rw[<- e]; omega);rw[e,h5,h4]
theorem zO3:∀ (f g:Nat) (q:QryL) (P V v:Nat) (n:NodeL),AccT q P V v n->n.wt<=f->n.wt<=g->vRF f q n=vRF g q n
 | 0,g,q,P,V,v,n,h,hf,_=>by have:=n.wt_eq; omega
 | f+1,0,q,P,V,v,n,h,_,hg=>by have:=n.wt_eq; omega
 | f+1,g+1,q,P,V,v,n,h,hf,hg=>by
   unfold vRF
   split
   .rfl
   .rename_i hne
    have:=(zHM h).2.1 hne;exact zO3 f g q P V v _ (zIS h) zom zom
theorem zHG{q:QryL}{P V v:Nat}{n:NodeL}(h:AccT q P V v n):vDK q n=if vCW q n=n then n else vDK q (vCW q n):=by
 unfold vDK;have hw:=n.wt_eq;obtain⟨m,hm⟩:∃ m,n.wt=m+1:=⟨n.wt - 1,zom⟩;rw[hm]
 conv=>lhs; unfold vRF
 split
 .rfl
 .rename_i hne
  have:=(zHM h).2.1 hne;exact zO3 _ _ q P V v _ (zIS h) zom (rAR _)
theorem vRE{q:QryL}{P V v:Nat}:∀ (f:Nat) (n:NodeL),n.wt<f->AccT q P V v n->AccT q P V v (vDK q n)/\vCW q (vDK q n)=vDK q n/\(vDK q n).wt<=n.wt:=by
 intro f
 induction f with
 | zero=>intro n h; omega
 | succ f ih =>
   intro n hf h;rw[zHG h]
   split
   .rename_i he; exact⟨h,he,rAR _⟩
   .rename_i hne
    have:=(zHM h).2.1 hne;obtain⟨g1,g2,g3⟩:=ih (vCW q n) zom (zIS h);exact⟨g1,g2,zom⟩
theorem AccT.inS{q:QryL}{P V v:Nat}{n:NodeL}(h:AccT q P V v n)(hq:szQ q P)(hv:v<=V)(hB:P+2 * V+20<=20000000):inS q P V v n:=⟨hq,hv,hB,h.z,h.tok,h.wt⟩
theorem AccT.tree{q:QryL}{P V v:Nat}{n:NodeL}(h:AccT q P V v n):vCF q n=([],0):=by
 unfold vCF;rw[rAU ⟨h.val,h.va⟩,h.bel]
theorem inS.acc{q:QryL}{P V v:Nat}{n:NodeL}(h:inS q P V v n)(ht:(vCF q n).2=0):AccT q P V v n:=by
 obtain⟨k1,k2,k3⟩:=vLO ht;exact⟨k1,k2,k3,h.z,h.tok,h.wt⟩
theorem AccT.splV{q:QryL}{P V v:Nat}{n:NodeL}(h:AccT q P V v n):splV q n=(vCS ⟨q,[],[]⟩ n,0):=by
 unfold Tryz.splV;rw[h.tree,rAU rfl]
theorem vO2:FO 19 Tryz.f19 [.cell 4 32,.tmp 5] 43:=mkO Tryz.func19 Tryz.ntmps19 Tryz.results19
theorem vZC(q:QryL)(P V v:Nat)(n:NodeL)(h:inS q P V v n):Fn 19 [vBJ q,vA7 n] (.data (.tup [vA7 (vGK q n).1,.int .i64 (vGK q n).2])):=by
 have ct:=h.tree;unfold vGK;by_cases h0:(vCF q n).2=0
 .have hA:=h.acc h0
  rw[rAU h0];rw[h0]at ct;refine zAL vBC hT vO2 (by simp[vBJ]) ?_;refine sns ?_;refine zAA ct rfl ?_;refine sns ?_;refine zAN hT (fun m:NodeL=>[(2,.cptr (vBJ q) 0),(3,.ptr 0 0 0),(4,.ptr 1 0 0)]) (fun m=>[(0,⟨[vA7 m],9,true⟩),(1,vD8)]) [] 2 (fun m=>AccT q P V v m/\vDK q m=vDK q n) NodeL.wt n ⟨hA,rfl⟩ zdd zsm ?_ ?_
  .exact⟨[1,2],[0],[(2,.cptr (vBJ q) 0)],[],⟨⟨⟨_,rfl⟩,rGU⟩,⟨⟨6,[0],zH0 rfl rfl,rfl⟩,rGU⟩,rGU⟩,⟨zAG rfl,apx,apx,rGU⟩,⟨bbx,bbx,rGU⟩,rAA⟩
  intro m ⟨hAm,hm⟩;have hSm:=hAm.inS h.q h.hv h.B;have hAl:=zL2 hAm;have hAs:=zIS hAm;have cl:=vK1 m hSm.sm.1 hSm.sm.2 (by have:=hSm.wt; omega);have cs:=vK0 q P V v (vBO m) (hAl.inS h.q h.hv h.B);have e1:=vZ0 _ m (vBO m) (rAL _) hSm.sm.1;have e2:=vZ0 _ (vBO m) (vCW q m) (rAL _) (hAl.inS h.q h.hv h.B).sm.1;obtain⟨w1,w2,w3⟩:=zHM hAm;have te:=zHG hAm;rw[hAl.splV]at cs;rw[show vCS ⟨q,[],[]⟩ (vBO m)=vCW q m from rfl]at cs;have back:vCW q m≠m->∃ i',(AccT q P V v i'/\vDK q i'=vDK q n)/\i'.wt<m.wt/\i'=vCW q m:=fun hne=>⟨_,⟨hAs,by rw[<- hm,te,rAM hne]⟩,w2 hne,rfl⟩
  have same:m=vBO m->vBO m=vCW q m->vDK q n=m:=fun h1 h2=>by rw[<- hm,te,rAU (by rw[<- h2,<- h1])]
  have diff:(m≠vBO m\/vBO m≠vCW q m)->vCW q m≠m:=fun h he=>by
   have:=w3 he;rcases h with h | h
   .exact h this.symm
   .exact h (by rw[this,he])
  generalize vBO m=a at *
  generalize vCW q m=b at *
  refine sns ?_;refine zAA cl rfl ?_;refine sns ?_;refine zAA cs rfl ?_;refine sns ?_;refine zAA e1 rfl ?_
  refine gon ?_ ?_<;>intro h
  .have h1:=h
   refine zAA e2 rfl ?_
   refine gon ?_ ?_<;>intro h
   .exact zAB rfl (by rw[same h1 rAC])
   .obtain⟨m',g1,g2,rfl⟩:=back (diff (rA0 rAC))
    exact⟨m',⟨g1,g2⟩,[0,1],[],[],[],ttt,⟨zAG rfl,apx,apx,rGU⟩,⟨bbx,bbx,rGU⟩,rAA⟩
  .obtain⟨m',g1,g2,rfl⟩:=back (diff (rAW rAC))
   exact⟨m',⟨g1,g2⟩,[0,1],[],[],[],ttt,⟨zAG rfl,apx,apx,rGU⟩,⟨bbx,bbx,rGU⟩,rAA⟩
 .rw[rAM h0]
  generalize (vCF q n).2=e at *
  refine zAL vBC hT vO2 (by simp[vBJ]) ?_;refine sns ?_;refine zAA ct rfl ?_
  refine gon ?_ ?_<;>intro h
  all_goals try (exfalso; omega)
  exact rGV
theorem zPI:FO 20 Tryz.f20 [.cell 4 32,.tmp 5] 32:=mkO Tryz.func20 Tryz.ntmps20 Tryz.results20
theorem vZG(q:QryL)(P V v:Nat)(n:NodeL)(h:inS q P V v n)(hv:q.g.ins+q.g.units.length<=16):Fn 20 [vBJ q,vA7 n] (.data (.tup [vA7 (vGK q n).1,.int .i64 (vGK q n).2])):=by
 have hB:=h.B;have ct:=zOG q n P V v h.hv h.q h.sm.1 h.z hB hv;unfold vGK;by_cases h0:(vCF q n).2=0
 .have hA:=h.acc h0
  rw[rAU h0];rw[h0]at ct;refine zAL vBC hT zPI (by simp[vBJ]) ?_;refine sns ?_;refine zAA ct rfl ?_;refine sns ?_;refine zAN hT (fun m:NodeL=>[(2,.cptr (vBJ q) 0),(3,.ptr 0 0 0),(4,.ptr 1 0 0)]) (fun m=>[(0,⟨[vA7 m],9,true⟩),(1,vD8)]) [] 2 (fun m=>AccT q P V v m/\vDK q m=vDK q n) NodeL.wt n ⟨hA,rfl⟩ zdd zsm ?_ ?_
  .exact⟨[1,2],[0],[(2,.cptr (vBJ q) 0)],[],⟨⟨⟨_,rfl⟩,rGU⟩,⟨⟨6,[0],zH0 rfl rfl,rfl⟩,rGU⟩,rGU⟩,⟨zAG rfl,apx,apx,rGU⟩,⟨bbx,bbx,rGU⟩,rAA⟩
  intro m ⟨hAm,hm⟩;have hSm:=hAm.inS h.q h.hv h.B;have hAl:=zL2 hAm;have hAs:=zIS hAm;have cl:=vNL m hSm.sm.1 hSm.sm.2 (by have:=hSm.wt; omega);have cs:=vNM q P V v (vBO m) (hAl.inS h.q h.hv h.B) hv;have e1:=zP2 _ (vCW q m) m (rAL _) (hAs.inS h.q h.hv h.B).sm.1;obtain⟨w1,w2,w3⟩:=zHM hAm;have te:=zHG hAm;rw[hAl.splV]at cs;rw[show vCS ⟨q,[],[]⟩ (vBO m)=vCW q m from rfl]at cs;have back:vCW q m≠m->∃ i',(AccT q P V v i'/\vDK q i'=vDK q n)/\i'.wt<m.wt/\i'=vCW q m:=fun hne=>⟨_,⟨hAs,by rw[<- hm,te,rAM hne]⟩,w2 hne,rfl⟩
  have same:vCW q m=m->vDK q n=vCW q m:=fun h1=>by rw[<- hm,te,rAU h1,h1]
  generalize vBO m=a at *
  generalize vCW q m=b at *
  refine sns ?_;refine zAA cl rfl ?_;refine sns ?_;refine zAA cs rfl ?_;refine sns ?_;refine zAA e1 rfl ?_
  refine gon ?_ ?_<;>intro h
  .exact zAB rfl (by rw[same rAC])
  .obtain⟨m',g1,g2,rfl⟩:=back rAC
   exact⟨m',⟨g1,g2⟩,[0,1],[],[],[],ttt,⟨zAG rfl,apx,apx,rGU⟩,⟨bbx,bbx,rGU⟩,rAA⟩
 .rw[rAM h0]
  generalize (vCF q n).2=e at *
  refine zAL vBC hT zPI (by simp[vBJ]) ?_;refine sns ?_;refine zAA ct rfl ?_
  refine gon ?_ ?_<;>intro h
  all_goals try (exfalso; omega)
  exact rGV
end Go.PI.Tryz
