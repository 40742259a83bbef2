/-
  A leaf with its last lemma repeated; rows of a leaf. No program in sight.
-/
import Derived.Test.YtbelmkceegmdjaaGreatDoorKPE
set_option linter.unusedVariables false
set_option linter.unusedSimpArgs false
set_option linter.unnecessarySimpa false
set_option maxHeartbeats 0
namespace Go.PI
theorem vVB{S:ScpL}{n:NodeL}(h:vBE S n=none):vCJ S n:=by
 refine rCG fun hr=>?_
 rw[zDB hr]at h; cases h
theorem vYW:∀ (sz:Nat) (n:NodeL) (S S':ScpL) (R:List Int) (d:Nat),SizeOf.sizeOf n<sz->vBH d n=true->Sim S S' R->(∀ k∈vFC n S.lems.length,k<S.lems.length->k∉R)->vBE S n=none->vBE S' (vC3 n S.lems.length R)=none:=by
 intro sz
 induction sz with
 | zero=>intro n S S' R d h; omega
 | succ sz ih =>
   intro n S S' R d hsz hf h hU hb;have hr:=vVB hb;obtain⟨l,s,ks,e,p⟩:=n;obtain⟨u,hu⟩:∃ u,vCP p++vDR ks ((S.lems.length:Int)+l.length)=u:=⟨_,rfl⟩;have eU:vFC (.mk l s ks e p) S.lems.length=(keepR l S.lems.length u).2:=by rw[<- hu]; rfl
   have eO:ownB l ks p S.lems.length=(keepR l S.lems.length u).1:=by rw[<- hu]; rfl
   rw[eU]at hU;obtain⟨g1,g2,g3⟩:=vHS l S S' R u h hr.1 hU;obtain⟨T,hT⟩:∃ T,R++vB4 (keepR l S.lems.length u).1 S.lems.length=T:=⟨_,rfl⟩;obtain⟨l',hl'⟩:∃ l',(vBS l (keepR l S.lems.length u).1).map (vC1 (vBY T))=l':=⟨_,rfl⟩;rw[hT,hl']at g1 g2;rw[hT]at g3
   have ec:vC3 (.mk l s ks e p) S.lems.length R=.mk l' s (vDQ ks ((S.lems.length:Int)+l.length) T) e (vBL (vBY T) p):=by
    show NodeL.mk _ _ _ _ _=_
    rw[eO,hT,hl']
   rw[ec];have hlen:((vBW S l).lems.length:Int)=S.lems.length+l.length:=by simp[vBW]
   have hq:S'.q=S.q:=h.q;by_cases h0:ks.length=0
   .have hks:ks=[]:=rAZ.1 h0
    subst hks;have h2:=hr.2;rw[rAU (show(NodeL.mk l s [] e p).kids.length=0 from rfl)]at h2;refine zEE ⟨g1,?_⟩ rfl;rw[rAU (show(NodeL.mk l' s (vDQ [] ((S.lems.length:Int)+l.length) T) e (vBL (vBY T) p)).kids.length=0 from rfl)];have hfree:okM (vBW S l) p p.length->vKK T p:=fun ho=>vYN ho fun k hk hlt=>g3 k (by rw[<- hu]; exact rAX.2 (rAW hk)) zom
    by_cases he:e=true
    .rw[rAU (show(NodeL.mk l s [] e p).empty=true from he)]at h2
     rw[rAU (show(NodeL.mk l' s (vDQ [] ((S.lems.length:Int)+l.length) T) e (vBL (vBY T) p)).empty=true from he)];have h2':vRO (vBW S l) p:=h2;exact uHW g2 (fun _ _=>rfl) (hfree h2'.1) h2'
    .rw[rAM (show ¬ (NodeL.mk l s [] e p).empty=true from he)]at h2
     rw[rAM (show ¬ (NodeL.mk l' s (vDQ [] ((S.lems.length:Int)+l.length) T) e (vBL (vBY T) p)).empty=true from he)];have h2':vGA (vBW S l) S.q.goal.Q p:=h2;rw[hq];exact vVU g2 (fun _ _=>rfl) (hfree h2'.1) h2'
   .have hn0:(NodeL.mk l s ks e p).kids.length≠0:=h0
    have hf2:=hf;rw[zA1 hn0]at hf2;simp only[rAO]at hf2;have h5:=hf2.1.1;unfold vBX at h5;obtain⟨e1,_⟩:=rCD h5;have hk2:ks.length=2:=e1;have hfk:=zCV (n:=NodeL.mk l s ks e p) e1 (d:=d);rw[hf]at hfk;have hfk:=hfk.symm;simp only[rAO]at hfk;obtain⟨x,y,rfl⟩:∃ x y,ks=[x,y]:=⟨_,_,zG8 hk2⟩;have h2:=hr.2;rw[rAM hn0]at h2;rw[zCC hr rfl]at hb
    have hr':vCJ S' (.mk l' s (vDQ [x,y] ((S.lems.length:Int)+l.length) T) e (vBL (vBY T) p)):=by
     refine⟨g1,?_⟩;rw[rAM (show ¬ (NodeL.mk l' s (vDQ [x,y] ((S.lems.length:Int)+l.length) T) e (vBL (vBY T) p)).kids.length=0 by show ¬ (2=0); omega),hq];exact h2
    have kid:∀ (k:NodeL) (dd:DecL),(k=x\/k=y)->vBH (d - 1) k=true->vBE (vCU S (.mk l s [x,y] e p) dd) k=none->vBE (vCU S' (.mk l' s (vDQ [x,y] ((S.lems.length:Int)+l.length) T) e (vBL (vBY T) p)) dd) (vC3 k ((S.lems.length:Int)+l.length) T)=none:=fun k dd hk hfo hbk=>by
     have hsim:Sim (vCU S (.mk l s [x,y] e p) dd) (vCU S' (.mk l' s (vDQ [x,y] ((S.lems.length:Int)+l.length) T) e (vBL (vBY T) p)) dd) T:=uHF g2 dd
     have hkl:((vCU S (.mk l s [x,y] e p) dd).lems.length:Int)=S.lems.length+l.length:=by
      show((S.lems++l).length:Int)=_; simp
     have hsz2:SizeOf.sizeOf k<sz:=by
      have:k∈(NodeL.mk l s [x,y] e p).kids:=by
       show k∈[x,y]; rcases hk with rfl | rfl<;>simp
      have:=NodeL.sizeOf_kid this;omega
     have:=ih k _ _ T (d - 1) hsz2 hfo hsim (by
      rw[hkl];intro i hi hlt;refine g3 i ?_ hlt;rw[<- hu];refine rAX.2 (rA0 ?_);show i∈vFC x _++(vFC y _++[])
      rcases hk with rfl | rfl
      .exact rAX.2 (rAW hi)
      .exact rAX.2 (rA0 (rAX.2 (rAW hi)))) hbk
     rw[hkl]at this;exact this
    have hbx:vBE (vCU S (.mk l s [x,y] e p) s) x=none:=by
     cases hx:vBE (vCU S (.mk l s [x,y] e p) s) x with
     | none=>rfl
     | some q=>rw[show(NodeL.mk l s [x,y] e p).split=s from rfl,hx]at hb; cases hb
    have hby:vBE (vCU S (.mk l s [x,y] e p) (vTN s)) y=none:=by
     rw[show(NodeL.mk l s [x,y] e p).split=s from rfl,hbx]at hb;exact hb
    rw[zCC (a:=vC3 x ((S.lems.length:Int)+l.length) T) (b:=vC3 y ((S.lems.length:Int)+l.length) T) hr' rfl];have k1:=kid x s (rAW rfl) hfk.2.1 hbx;have k2:=kid y (vTN s) (rA0 rfl) hfk.2.2 hby;show(match vBE (vCU S' _ s) _ with | some p=>some p | none=>vBE (vCU S' _ (vTN s)) _)=none
    rw[k1];exact k2
theorem vG2:∀ (bs:List Bool) (j:Int),(∀ b∈bs,b=true)->vB4 bs j=[]
 | [],_,_=>rfl
 | b::bs,j,h=>by
   obtain rfl:b=true:=h b zsm;simp only[vB4];exact vG2 bs _ fun x hx=>h x (rBC _ hx)
theorem zN1:∀ (l:List LemL) (O:List Bool),O.length=l.length->(∀ b∈O,b=true)->vBS l O=l
 | [],O,_,_=>by cases O<;>rfl
 | m::l,[],h,_=>by simp at h
 | m::l,b::O,h,hb=>by
   obtain rfl:b=true:=hb b zsm;simp only[vBS,rCI];rw[zN1 l O (by simpa using h) fun x hx=>hb x (rBC _ hx)]
theorem zM2:∀ (l:List LemL) (O:List Bool),(vBS l O).length<=l.length
 | [],O=>by simp[vBS]
 | m::l,[]=>by simp[vBS]
 | m::l,b::O=>by
   have:=zM2 l O;unfold vBS
   split<;>simp<;>omega
theorem zHY:∀ (l:List LemL) (O:List Bool),O.length=l.length->(vBS l O).length=l.length->∀ b∈O,b=true
 | [],O,h,_=>by
   have:O=[]:=rAZ.1 (by simpa using h);subst this; simp
 | m::l,[],h,_=>by simp at h
 | m :: l,b::O,h,hk=>by
   have hl:=zM2 l O;intro x hx;cases b with
   | true =>
     simp only[vBS,rCI,List.length_cons]at hk;rcases rBA.1 hx with rfl | hx
     .rfl
     .exact zHY l O (by simpa using h) zom x hx
   | false =>
     simp only[vBS,rCF,rCL,List.length_cons]at hk;omega
theorem vPU:∀ (l:List LemL) (O:List Bool),((vBS l O).map vCD).sum+(l.length - (vBS l O).length)<=(l.map vCD).sum
 | [],O=>by simp[vBS]
 | m::l,[]=>by
   have:m::l=m::l:=rfl
   have h:∀ l:List LemL,l.length<=(l.map vCD).sum:=fun l=>by
    induction l with
    | nil=>simp
    | cons a l ih =>
      have:1<=vCD a:=by unfold vCD; omega
      simp only[List.length_cons,rBM,List.sum_cons]; omega
   have:=h (m::l);simp only[vBS,rEQ,List.sum_nil,List.length_nil]; omega
 | m::l,b::O=>by
   have ih:=vPU l O;have hl:=zM2 l O;have hm:1<=vCD m:=by unfold vCD; omega
   cases b with
   | true=>simp only[vBS,rCI,rBM,List.sum_cons,List.length_cons]; omega
   | false=>simp only[vBS,rCF,rCL,rBM,List.sum_cons,List.length_cons]; omega
theorem uG2(f:RowL->RowL)(l:List LemL):((l.map (vC1 f)).map vCD).sum=(l.map vCD).sum:=by
 rw[rCQ]
 congr 1
 exact rBH fun m _=>by show vCD (vC1 f m)=vCD m; simp[vCD,vC1,vBL]
theorem zKQ(b:Int)(R:List Int):∀ ks:List NodeL,vDQ ks b R=ks.map fun k=>vC3 k b R
 | []=>rfl
 | k::ks=>by simp only[vDQ,rBM,zKQ b R ks]
theorem vYU:∀ (sz:Nat) (n:NodeL) (b:Int) (R:List Int),SizeOf.sizeOf n<sz->(vC3 n b R).wt<=n.wt/\((vC3 n b R).wt=n.wt->vC3 n b R=vCO (vBY R) n):=by
 intro sz
 induction sz with
 | zero=>intro n b R h; omega
 | succ sz ih =>
   intro n b R hsz;obtain⟨l,s,ks,e,p⟩:=n;obtain⟨O,hO⟩:∃ O,ownB l ks p b=O:=⟨_,rfl⟩;have hOl:O.length=l.length:=by rw[<- hO]; exact zD4 _ _ _
   have ec:vC3 (.mk l s ks e p) b R=.mk ((vBS l O).map (vC1 (vBY (R++vB4 O b)))) s (ks.map fun k=>vC3 k (b+l.length) (R++vB4 O b)) e (vBL (vBY (R++vB4 O b)) p):=by
    show NodeL.mk _ _ _ _ _=_
    rw[hO,zKQ]
   have w1:(NodeL.mk l s ks e p).wt=1+(l.map vCD).sum+p.length+(ks.map NodeL.wt).sum:=NodeL.wt_eq _
   have w2:(vC3 (.mk l s ks e p) b R).wt=1+((vBS l O).map vCD).sum+p.length+((ks.map fun k=>vC3 k (b+l.length) (R++vB4 O b)).map NodeL.wt).sum:=by
    rw[ec,NodeL.wt_eq];show 1+(((vBS l O).map (vC1 (vBY (R++vB4 O b)))).map vCD).sum+(vBL (vBY (R++vB4 O b)) p).length+_=_
    rw[uG2];simp[vBL,NodeL.kids]
   have hkw:=vPU l O;have hkl:=zM2 l O
   have hkid:∀ k∈ks,(vC3 k (b+l.length) (R++vB4 O b)).wt<=k.wt/\((vC3 k (b+l.length) (R++vB4 O b)).wt=k.wt->vC3 k (b+l.length) (R++vB4 O b)=vCO (vBY (R++vB4 O b)) k):=fun k hk=>ih k _ _ (by
    have:=NodeL.sizeOf_kid (show k∈(NodeL.mk l s ks e p).kids from hk)
    omega)
   have sums:∀ ks':List NodeL,(∀ k∈ks',k∈ks)->((ks'.map fun k=>vC3 k (b+l.length) (R++vB4 O b)).map NodeL.wt).sum<=(ks'.map NodeL.wt).sum/\(((ks'.map fun k=>vC3 k (b+l.length) (R++vB4 O b)).map NodeL.wt).sum=(ks'.map NodeL.wt).sum->∀ k∈ks',(vC3 k (b+l.length) (R++vB4 O b)).wt=k.wt):=by
    intro ks'
    induction ks' with
    | nil=>intro _; exact⟨rAR _,fun _ k hk=>by cases hk⟩
    | cons a ks' ihk =>
      intro hs;have ha:=(hkid a (hs a zsm)).1;obtain⟨h1,h2⟩:=ihk fun k hk=>hs k (rBC _ hk)
      simp only[rBM,List.sum_cons];refine⟨zom,fun he k hk=>?_⟩;rcases rBA.1 hk with rfl | hk
      .omega
      .exact h2 zom k hk
   obtain⟨s1,s2⟩:=sums ks fun _ h=>h
   refine⟨zom,fun he=>?_⟩;have hall:=zHY l O hOl zom;have hrem:=vG2 O b hall;have hkeep:=zN1 l O hOl hall;rw[ec,hrem,hkeep,rBQ];have hks:=s2 zom;rw[hrem,rBQ]at hks hkid
   have:(ks.map fun k=>vC3 k (b+l.length) R)=vF4 (vBY R) ks:=by
    have hm:∀ ks':List NodeL,(∀ k∈ks',k∈ks)->(ks'.map fun k=>vC3 k (b+l.length) R)=vF4 (vBY R) ks':=by
     intro ks'
     induction ks' with
     | nil=>intro _; rfl
     | cons a ks' ihk =>
       intro hs;have ha:=hs a zsm;simp only[rBM,vF4];rw[(hkid a ha).2 (hks a ha),ihk fun k hk=>hs k (rBC _ hk)]
    exact hm ks fun _ h=>h
   rw[this];rfl
theorem uNT{n:NodeL}(h:(vC3 n 0 []).wt=n.wt):vC3 n 0 []=n:=by
 rw[(vYU _ n 0 [] (rAL _)).2 h,vOO,vY5]
theorem uBO{S:ScpL}{r:RowL}(hp:S.path=[])(h:(vDB S r).isSome=true):r.kind≠4:=by
 intro hk
 have e:vDB S r=none:=by
  unfold vDB;rw[rAU zom];unfold inO
  split
  .rfl
  .rename_i h0
   have h1:¬ r.index<0:=fun e=>h0 (rAW e)
   rw[rAM zom,rAM zom,rAM zom,rAM (by rw[hp]; simp only[List.length_nil]; omega)]
 rw[e]at h;cases h
theorem vVF{L v:Int}(h:v<=L+1):vCI [L] v=v:=by
 unfold vCI;rw[rFB rAE]
 simp
theorem vJB{S:ScpL}{l:List MultL}{L:Int}(ho:okM S l l.length)(hL:(S.lems.length:Int)<=L):vBL (vBY [L]) l=l:=by
 unfold vBL
 have:l.map (fun m:MultL=>(⟨vBY [L] m.row,m.coef⟩:MultL))=l.map id:=rBH fun m hm=>by
  obtain⟨k,hk,rfl⟩:=rA8 hm;have e:=rAT l k hk;obtain⟨f,hr⟩:=rBZ.1 (ho k hk).2.2.2;rw[e]at hr;obtain⟨r1,r2⟩:=zL5 hr;have h1:vCI [L] l[k].row.lo=l[k].row.lo:=vVF (by rcases r1 with r1 | r1<;>omega);have h2:vCI [L] l[k].row.hi=l[k].row.hi:=vVF (by rcases r2 with r2 | r2<;>omega);show(⟨vBY [L] l[k].row,l[k].coef⟩:MultL)=l[k]
  unfold vBY;rw[h1,h2]
 rw[this,rEV]
theorem uG4{S:ScpL}{l:List MultL}(ho:okM S l l.length):∀ k∈vCP l,k<S.lems.length:=by
 intro k hk;unfold vCP at hk;rw[rER]at hk;obtain⟨m,hm,hk⟩:=hk;obtain⟨i,hi,rfl⟩:=rA8 hm;have e:=rAT l i hi;obtain⟨f,hr⟩:=rBZ.1 (ho i hi).2.2.2;rw[e]at hr;obtain⟨r1,r2⟩:=zL5 hr;rw[rAX]at hk;rcases hk with hk | hk
 .split at hk
  .rw[rBI.1 hk]; rcases r1 with r1 | r1<;>omega
  .cases hk
 .split at hk
  .rw[rBI.1 hk]; rcases r2 with r2 | r2<;>omega
  .cases hk
theorem zPS:∀ (l:List LemL) (m:LemL) (j:Int) (u:List Int),j+l.length∉u->keepR (l++[m]) j u=((keepR l j u).1++[false],(keepR l j u).2)
 | [],m,j,u,h=>by
   have h:j∉u:=by simpa using h
   simp[keepR,h]
 | a::l,m,j,u,h=>by
   have ih:=zPS l m (j+1) u (by
    have e:j+1+(l.length:Int)=j+((a::l).length:Nat):=by simp only[List.length_cons]; omega
    rw[e]; exact h)
   rw[List.cons_append];unfold keepR;rw[ih];dsimp only
   split<;>rfl
theorem zPR:∀ (l:List LemL) (m:LemL) (O:List Bool),O.length=l.length->vBS (l++[m]) (O++[false])=vBS l O
 | [],m,O,h=>by
   have:O=[]:=rAZ.1 (by simpa using h);subst this; simp[vBS]
 | a::l,m,[],h=>by simp at h
 | a::l,m,b::O,h=>by
   simp only[List.cons_append,vBS];rw[zPR l m O (by simpa using h)]
theorem vJJ:∀ (O:List Bool) (j:Int),vB4 (O++[false]) j=vB4 O j++[j+O.length]
 | [],j=>by simp[vB4]
 | b::O,j=>by
   have ih:=vJJ O (j+1);have e:j+1+(O.length:Int)=j+((b::O).length:Nat):=by simp only[List.length_cons]; omega
   rw[e]at ih;cases b<;>simp only[List.cons_append,vB4,ih]
theorem vKF{S:ScpL}{n:NodeL}(h:vCJ S n)(hk:n.kids.length=0):(∀ i,i<n.lemmas.length->okM (vBW S (n.lemmas.take i)) n.lemmas[i]!.proof n.lemmas[i]!.proof.length)/\okM (vBW S n.lemmas) n.proof n.proof.length:=by
 refine⟨fun i hi=>(h.1 i hi).2.2.1,?_⟩;have h2:=h.2;rw[rAU hk]at h2
 split at h2
 .exact h2.1
 .exact h2.1
theorem uDM{S:ScpL}{l:List LemL}{s:DecL}{e:Bool}{p:List MultL}{m:LemL}(hS:S.lems=[])(hr:vCJ S (.mk l s [] e p))(hfix:vC3 (.mk l s [] e p) 0 []=.mk l s [] e p):vC3 (.mk (l++[m]) s [] e p) 0 []=.mk l s [] e p:=by
 obtain⟨r1,r2⟩:=vKF hr rfl;have r1:∀ i,i<l.length->okM (vBW S (l.take i)) l[i]!.proof l[i]!.proof.length:=r1;have r2:okM (vBW S l) p p.length:=r2;have hl:((vBW S l).lems.length:Int)=l.length:=by simp[vBW,hS]
 obtain⟨O,hO⟩:∃ O,(keepR l 0 (vCP p++[])).1=O:=⟨_,rfl⟩;have hOl:O.length=l.length:=by rw[<- hO]; exact zD4 _ _ _
 have ec:vC3 (.mk l s [] e p) 0 []=.mk ((vBS l O).map (vC1 (vBY ([]++vB4 O 0)))) s [] e (vBL (vBY ([]++vB4 O 0)) p):=by rw[<- hO]; rfl
 rw[ec]at hfix
 have hall:∀ b∈O,b=true:=by
  refine zHY l O hOl ?_;have:=rA3 (fun n:NodeL=>n.lemmas.length) hfix
  simpa [NodeL.lemmas]using this
 have hu:(0:Int)+(l.length:Nat)∉vCP p++[]:=fun hk=>by
  rw[rBQ]at hk;have:=uG4 r2 _ hk;omega
 have hk2:=zPS l m 0 (vCP p++[]) hu;have e2:vC3 (.mk (l++[m]) s [] e p) 0 []=.mk ((vBS (l++[m]) (keepR (l++[m]) 0 (vCP p++[])).1).map (vC1 (vBY ([]++vB4 (keepR (l++[m]) 0 (vCP p++[])).1 0)))) s [] e (vBL (vBY ([]++vB4 (keepR (l++[m]) 0 (vCP p++[])).1 0)) p):=rfl;rw[e2,hk2,hO];dsimp only;rw[zPR l m O hOl,zN1 l O hOl hall,vJJ,vG2 O 0 hall,List.nil_append,List.nil_append,hOl];have hp:vBL (vBY [(0:Int)+(l.length:Nat)]) p=p:=vJB r2 (by rw[hl]; omega)
 have hlm:l.map (vC1 (vBY [(0:Int)+(l.length:Nat)]))=l:=by
  have:l.map (vC1 (vBY [(0:Int)+(l.length:Nat)]))=l.map id:=rBH fun x hx=>by
   obtain⟨i,hi,rfl⟩:=rA8 hx;have e:=rAT l i hi;have ho:=r1 i hi;have ho:okM (vBW S (l.take i)) l[i]!.proof l[i]!.proof.length:=ho;rw[e]at ho;have:=vJB (L:=(0:Int)+(l.length:Nat)) ho (by simp[vBW,hS]; omega);show vC1 _ l[i]=l[i]
   unfold vC1;rw[this]
  rw[this,rEV]
 rw[hp,hlm]
end Go.PI
