/-
  PI: the rules by which a function is carried out: its beginning and end, loops, wraps.
-/
import Derived.Test.YtcbepncdbgaohaaGreatDoorCA0
import Derived.Still
import Derived.OrdersIn
import Derived.TacticsIn
import Derived.CallsIn
set_option linter.all false
set_option maxHeartbeats 0
namespace Go.PI
open Go.RowKit
def kP{f:PV->Option (PV×List Nat)}:∀ {l ds:List PV} {ks:List Nat},zZ f l=some (ds,ks) ->
 ds.length=l.length/\∀ (i:Nat) d,ds[i]?=some d->∃ x ks',l[i]?=some x/\f x=some (d,ks')/\∀ k∈ks',k∈ks
 |[],ds,ks,h=>by simp[zZ]at h;obtain⟨rfl,rfl⟩:=h;exact⟨rfl,fun i d hd=>by simp at hd⟩
 | x::l,ds,ks,h=>by
   unfold zZ at h
   split at h
   .rename_i d ks1 ds' ls h1 h2
    cases h
    obtain⟨g1,g2⟩:=kP h2;refine⟨by simp[g1],fun i d' hd=>?_⟩;cases i with
    |zero=>simp at hd;subst hd;exact⟨x,ks1,rfl,h1,fun k hk=>sV _ hk⟩
    | succ i =>
      obtain⟨y,ks',e1,e2,e3⟩:=g2 i d' (by simpa using hd);exact⟨y,ks',by simpa using e1,e2,fun k hk=>pJ _ (e3 k hk)⟩
   .cases h
def Cn{h:Hp}:∀ {n:Nat} {e d:PV} {ks:List Nat},frz h n e=some (d,ks)->d.cells.length=e.cells.length/\d.isAgg=e.isAgg /\
 ∀ (j:Nat) x',d.cells[j]?=some x'->∃ m x ks',m<=n/\e.cells[j]?=some x/\frz h m x=some (x',ks')/\∀ k∈ks',k∈ks:=by
 intro n e d ks hf
 have one:∀ (e d:PV),e.cells=[e]->d.cells=[d]->e.isAgg=false->d.isAgg=false->frz h n e=some (d,ks)->d.cells.length=e.cells.length/\d.isAgg=e.isAgg /\
  ∀ (j:Nat) x',d.cells[j]?=some x'->∃ m x ks',m<=n/\e.cells[j]?=some x/\frz h m x=some (x',ks')/\∀ k∈ks',k∈ks:=by
  intro e d h1 h2 h3 h4 hf;rw[h1,h2,h3,h4];refine⟨rfl,rfl,fun j x' hj=>?_⟩;cases j with
  |zero=>simp at hj;subst hj;exact⟨n,e,ks,zX _,rfl,hf,fun k hk=>hk⟩
  |succ j=>simp at hj
 have hf0:=hf;unfold frz at hf
 split at hf
 .cases hf;exact one _ _ rfl rfl rfl rfl hf0
 .cases hf;exact one _ _ rfl rfl rfl rfl hf0
 .cases hf;exact one _ _ rfl rfl rfl rfl hf0
 .cases hf;exact one _ _ rfl rfl rfl rfl hf0
 .cases hf;exact one _ _ rfl rfl rfl rfl hf0
 .cases hf;exact one _ _ rfl rfl rfl rfl hf0
 .cases hf;exact one _ _ rfl rfl rfl rfl hf0
 .cases hf;exact one _ _ rfl rfl rfl rfl hf0
 .split at hf
  .split at hf
   .split at hf
    .cases hf;exact one _ _ rfl rfl rfl rfl hf0
    .cases hf
   .cases hf
  .cases hf
 .split at hf
  .cases hf;exact one _ _ rfl rfl rfl rfl hf0
  .cases hf
 .rename_i n cs
  split at hf
  .rename_i ds ks' hm
   cases hf
   obtain⟨g1,g2⟩:=kP hm;refine⟨g1,rfl,fun j x' hj=>?_⟩;obtain⟨x,ks',e1,e2,e3⟩:=g2 j x' hj;exact⟨n,x,ks',Jf _,e1,e2,e3⟩
  .cases hf
 .split at hf
  .cases hf;exact one _ _ rfl rfl rfl rfl hf0
  .cases hf
 .rename_i n r off len
  split at hf
  .split at hf
   .split at hf
    .cases hf;exact one _ _ rfl rfl rfl rfl hf0
    .cases hf
   .cases hf
  .cases hf
 .cases hf
section
variable {E:Env} {G:Gl} {w:World} {A:Nat->Prop} {κ:Ka} {h:Hp} {z:Fz}
def tY(κ:Ka)(ks:List Nat)(b:Nat):Prop:=∃ r∈ks,∃ sz cap,κ r=some (b,sz,cap)/\cap≠0
def ER (H:HR E G w A κ h z) {A':Nat->Prop} (hA:∀ b,A b->A' b):∀ (n:Nat) (d v:PV) (u:Value) (ks:List Nat),frz h n d=some (v,ks)->RV w A κ d u->(∀ b,tY κ ks b->A' b)->RD w A' v u:=by
 intro n
 induction n using Nat.strongRecOn with
 | _ n ih =>
   intro d v u ks hf hv hks;unfold frz at hf
   split at hf
   .cases hf;rw[hv.int_inv];exact .int _ _
   .cases hf;rw[hv.bool_inv];exact .bool _
   .cases hf;rw[hv.str_inv];exact .str _
   .cases hf;exact hv.imm_inv.mono hA (fun _ _ _=>rfl)
   .cases hf;rw[hv.nilsl_inv];exact .imm0 _ _
   .cases hf;rw[hv.nilfunc_inv];exact .nilfunc
   .cases hf;rw[hv.raw_inv];exact .raw _
   .cases hf
    obtain⟨b,o,val,rfl,h1,h2,h3⟩:=hv.cptr_inv;exact .cptr _ _ b o val (hA b h1) h2 (fun c d hd=>(h3 c d hd).mono hA (fun _ _ _=>rfl))
   .rename_i n r i off
    split at hf
    .rename_i b hb
     split at hf
     .rename_i e he
      split at hf
      .rename_i d' ks' hd'
       cases hf
       obtain⟨m,sz,cap,rfl,hκ⟩:=hv.ptr_inv;obtain⟨m0,cap0,e1,e2,e3,e4⟩:=H.blk r b hb (by rw[hκ];simp);rw[hκ]at e1;cases e1;have hi:=(xW.1 he).1;obtain⟨c,ty,f1,f2,f3,f4,f5,f6,f7⟩:=dP e4 (by clear e4;omega) fun e=>by rw[e]at hi;cases hi
       clear e4;have hAm:A' m:=hks m ⟨r,zsm,b.sz,cap,hκ,zom⟩;obtain⟨g1,_,hcel⟩:=Cn hd';refine .cptr d' off m (i*b.sz) (fun j=>c.getD (i*b.sz+j) undef) hAm (fun j hj=>?_) (fun j x' hx'=>?_)
       .obtain⟨u,q1,q2,q3⟩:=f5 i e he j _ (wN zom)
        have hgd:c.getD (i*b.sz+j) undef=u:=by simp[o8,q1]
        simp only[hgd];exact⟨by simp[World.cell?,f2,q1],q3⟩
       .obtain⟨m',y,ks2,p1,p2,p3,p4⟩:=hcel j x' hx'
        obtain⟨u,t1,t2,t3⟩:=f5 i e he j y p2;have hgd:c.getD (i*b.sz+j) undef=u:=by simp[o8,t1]
        simp only[hgd];exact ih m' zom y x' u ks2 p3 t2 (fun b ⟨r,hr,q⟩=>hks b ⟨r,xN _ (p4 r hr),q⟩)
      .cases hf
     .cases hf
    .cases hf
   .rename_i n fn f c
    split at hf
    .rename_i fs ks1 cs ks2 hm1 hm2
     cases hf
     obtain⟨us,vs,rfl,h1,h2,h3,h4⟩:=hv.func_inv;obtain⟨g1,g2⟩:=kP hm1;obtain⟨g3,g4⟩:=kP hm2;refine .func fn fs cs us vs zom zom (fun i d hd=>?_) (fun i d hd=>?_)
     .obtain⟨x,ks',e1,e2,e3⟩:=g2 i d hd
      exact ih n (nC _) x d _ ks' e2 (h3 i x e1) (fun b ⟨r,hr,q⟩=>hks b ⟨r,sV _ (e3 r hr),q⟩)
     .obtain⟨x,ks',e1,e2,e3⟩:=g4 i d hd
      exact ih n (nC _) x d _ ks' e2 (h4 i x e1) (fun b ⟨r,hr,q⟩=>hks b ⟨r,pJ _ (e3 r hr),q⟩)
    .cases hf
   .rename_i n cs
    split at hf
    .rename_i ds ks' hm
     cases hf
     obtain⟨vs,rfl,h1,h2,h3⟩:=hv.agg_inv;obtain⟨g1,g2⟩:=kP hm;refine .agg ds vs zom (fun i d hd=>?_) (fun i hi=>h3 i zom);obtain⟨x,ks',e1,e2,e3⟩:=g2 i d hd;exact ih n (nC _) x d _ ks' e2 (h2 i x e1) (fun b ⟨r,hr,q⟩=>hks b ⟨r,e3 r hr,q⟩)
    .cases hf
   .rename_i n cs
    split at hf
    .rename_i ds ks' hm
     cases hf
     obtain⟨vs,rfl,h1,h2⟩:=hv.tup_inv;obtain⟨g1,g2⟩:=kP hm;refine .tup ds vs zom (fun i d hd=>?_);obtain⟨x,ks',e1,e2,e3⟩:=g2 i d hd;exact ih n (nC _) x d _ ks' e2 (h2 i x e1) (fun b ⟨r,hr,q⟩=>hks b ⟨r,e3 r hr,q⟩)
    .cases hf
   .rename_i n r off len
    split at hf
    .rename_i b hb
     split at hf
     .rename_i hle
      split at hf
      .rename_i ds ks' hm
       cases hf
       obtain⟨m,sz,cap,a,rfl,hκ,hcap,ha⟩:=hv.own_inv;obtain⟨g1,g2⟩:=kP hm;have hlen:ds.length=len:=by rw[g1];simp;omega
       by_cases hl0:len=0
       .have:ds=[]:=vZ.1 zom
        subst this hl0;exact .imm0 _ _
       obtain⟨m0,cap0,e1,e2,e3,e4⟩:=H.blk r b hb (by rw[hκ];simp);rw[hκ]at e1;cases e1;obtain⟨c,ty,f1,f2,f3,f4,f5,f6,f7⟩:=dP e4 (by clear e4;omega) fun e=>by rw[e]at hle;simp at hle;omega
       clear e4;have ha':=ha.resolve_right zom;subst ha';have hget:∀ i,i<len->((b.els.drop off).take len)[i]?=b.els[off+i]?:=fun i hi=>by rw[oP hi,pM]
       have hAm:A' m:=hks m ⟨r,zsm,b.sz,cap,hκ,zom⟩;rw[<- hlen];refine .imm ds b.sz m (off*b.sz) (cap-off) (fun i j=>c.getD ((off+i)*b.sz+j) undef) hAm zom (fun e he=>?_) (fun i j hi hj=>?_) (fun i e he j x' hx'=>?_)
       .obtain⟨i,hi,rfl⟩:=uE he
        obtain⟨x,ks1,q1,q2,q3⟩:=g2 i _ (wN hi);rw[hget i zom]at q1;rw[(Cn q2).1,(e3 x (wO q1)).1]
       .have hlt:off+i<b.els.length:=zom
        have hcl:=(e3 b.els[off+i] zsm).1;obtain⟨u,q1,q2,q3⟩:=f5 (off+i) _ (wN hlt) j _ (wN zom);have e:off*b.sz+i*b.sz+j=(off+i)*b.sz+j:=by rw[w6]
        rw[e];have hgd:c.getD ((off+i)*b.sz+j) undef=u:=by simp[o8,q1]
        simp only[hgd];exact⟨by simp[World.cell?,f2,q1],q3⟩
       .have hi:=(xW.1 he).1
        obtain⟨x,ks1,q1,q2,q3⟩:=g2 i e he;rw[hget i zom]at q1;obtain⟨_,_,hcel⟩:=Cn q2;obtain⟨m',y,ks2,p1,p2,p3,p4⟩:=hcel j x' hx';obtain⟨u,t1,t2,t3⟩:=f5 (off+i) x q1 j y p2;have hgd:c.getD ((off+i)*b.sz+j) undef=u:=by simp[o8,t1]
        simp only[hgd];exact ih m' zom y x' u ks2 p3 t2 (fun b ⟨r,hr,q⟩=>hks b ⟨r,xN _ (q3 r (p4 r hr)),q⟩)
      .cases hf
     .cases hf
    .cases hf
   .cases hf
def Gh:∀ (n:Nat) (d v:PV) (ks:List Nat),frz h n d=some (v,ks)->∀ r∈ks,∃ b,h r=some b:=by
 intro n
 induction n with
 | zero =>
   intro d v ks hf r hr;cases d<;>simp[frz]at hf
   all_goals (rw[hf.2]at hr;cases hr)
 | succ n ih =>
   intro d v ks hf
   have hm':∀ (l ds:List PV) (ks:List Nat),zZ (frz h n) l=some (ds,ks)->∀ r∈ks,∃ b,h r=some b:=by
    intro l
    induction l with
    |nil=>intro ds ks hm r hr;simp[zZ]at hm;rw[hm.2]at hr;cases hr
    | cons x l ihl =>
      intro ds ks hm r hr;unfold zZ at hm
      split at hm
      .rename_i d ks1 ds' ls h1 h2
       cases hm
       rcases y8.1 hr with hr|hr
       .exact ih _ _ _ h1 r hr
       .exact ihl _ _ h2 r hr
      .cases hm
   unfold frz at hf
   split at hf
   .cases hf;intro r hr;cases hr
   .cases hf;intro r hr;cases hr
   .cases hf;intro r hr;cases hr
   .cases hf;intro r hr;cases hr
   .cases hf;intro r hr;cases hr
   .cases hf;intro r hr;cases hr
   .cases hf;intro r hr;cases hr
   .cases hf;intro r hr;cases hr
   .rename_i n' r i off he
    cases he
    split at hf
    .rename_i b hb
     split at hf
     .split at hf
      .rename_i d' ks' hd'
       cases hf
       intro q hq;rcases yI.1 hq with rfl|hq
       .exact⟨b,hb⟩
       .exact ih _ _ _ hd' q hq
      .cases hf
     .cases hf
    .cases hf
   .rename_i n' fn f c he
    cases he
    split at hf
    .rename_i fs ks1 cs ks2 hm1 hm2
     cases hf
     intro q hq;rcases y8.1 hq with hq|hq
     .exact hm' _ _ _ hm1 q hq
     .exact hm' _ _ _ hm2 q hq
    .cases hf
   .rename_i n' cs he
    cases he
    split at hf
    .rename_i ds ks' hm
     cases hf
     exact hm' _ _ _ hm
    .cases hf
   .rename_i n' cs he
    cases he
    split at hf
    .rename_i ds ks' hm
     cases hf
     exact hm' _ _ _ hm
    .cases hf
   .rename_i n' r off len he
    cases he
    split at hf
    .rename_i b hb
     split at hf
     .split at hf
      .rename_i ds ks' hm
       cases hf
       intro q hq;rcases yI.1 hq with rfl|hq
       .exact⟨b,hb⟩
       .exact hm' _ _ _ hm q hq
      .cases hf
     .cases hf
    .cases hf
   .cases hf
def dQ{n:Nat}:∀ {l ds:List PV} {ks:List Nat},zZ (frz h n) l=some (ds,ks)->∀ r∈ks,∃ b,h r=some b
 |[],ds,ks,hm,r,hr=>by simp[zZ]at hm;rw[hm.2]at hr;cases hr
 | x :: l,ds,ks,hm,r,hr=>by
   unfold zZ at hm
   split at hm
   .rename_i d ks1 ds' ls h1 h2
    cases hm
    rcases y8.1 hr with hr|hr
    .exact Gh _ _ _ _ h1 r hr
    .exact dQ h2 r hr
   .cases hm
def HR.freeze(H:HR E G w A κ h z){ks:List Nat}(hk:∀ r∈ks,∃ b,h r=some b):HR E G w (fun b=>A b\/tY κ ks b) κ h (yY z ks):=by
 have mono:∀ {d v},RV w A κ d v->RV w (fun b=>A b\/tY κ ks b) κ d v:=fun hv=>hv.mono (fun _ h=>zF h) (fun _ _ _=>rfl) (fun _ _ h=>h)
 have real:∀ b,tY κ ks b->E.B<=b/\b<w.heap.size:=by
  rintro b ⟨r,hr,sz,cap,hκ,hc⟩
  obtain⟨bk,hb⟩:=hk r hr;obtain⟨m,cap',h1,h2,h3,h4⟩:=H.blk r bk hb (by rw[hκ];simp);rw[hκ]at h1;cases h1;rcases h4.resolve_left hc with⟨⟨_,_,_,g2⟩,g1,_⟩|⟨c,ty,⟨g1,_⟩,g2,_⟩<;>exact⟨g1,(kH.1 g2).1⟩
 refine⟨H.bel,H.hB,fun b hb=>?_,fun b hb=>zF (H.a0 b hb),fun b hb=>?_,H.acell,H.k0,fun g e hg=>mono (H.glob g e hg),H.klt,⟨fun r b m sz cap hr hk hc hz=>?_,H.kp.kb,H.kp.kk,fun b hb=>⟨(H.kp.zk b hb).1,?_⟩⟩,fun r b hb hκ=>?_,H.excl⟩
 .rcases hb with hb|hb
  .exact H.alt b hb
  .exact(real b hb).2
 .rcases hb with hb|hb
  .exact H.a1 b hb
  .exact zC (real b hb).1
 .simp only[yY,JS]at hz
  exact H.kp.own r b m sz cap hr hk hc hz.2
 .rintro(hA|⟨r,hr,sz,cap,hκ,hc⟩)
  .exact(H.kp.zk b hb).2 hA
  .obtain⟨bk,hbk⟩:=hk r hr
   cases hzr:z r with
   |false=>exact H.kp.own r bk b sz cap hbk hκ hc hzr (H.kp.zk b hb).1
   | true =>
     obtain⟨m,cap',h1,h2,h3,h4⟩:=H.blk r bk hbk (by rw[hκ];simp);rw[hκ]at h1;cases h1;rcases h4.resolve_left hc with⟨_,_,_,g7⟩|⟨c,ty,g1,g2,g3,g4,g5,g6,g7⟩<;>exact(H.kp.zk _ hb).2 (g7 hzr)
 .obtain⟨m,cap,h1,h2,h3,h4⟩:=H.blk r b hb hκ
  refine⟨m,cap,h1,h2,h3,?_⟩;by_cases hc:cap=0
  .exact zF hc
  have az:(z r=false->¬ A m)/\(z r=true->A m)->(yY z ks r=false->¬ (A m\/tY κ ks m))/\(yY z ks r=true->A m\/tY κ ks m):=fun⟨g6,g7⟩=>?_
  .rcases h4.resolve_left hc with⟨p,g1,g⟩|⟨c,ty,g1,g2,g3,g4,g5,g⟩
   .exact zC (zF ⟨p,g1,az g⟩)
   .exact zC (zC ⟨c,ty,g1,g2,g3,g4,fun i e he=>(g5 i e he).mono (fun _ h=>zF h) (fun _ _ _=>rfl) (fun _ _ h=>h),az g⟩)
  refine⟨fun hz=>?_,fun hz=>?_⟩
  .simp only[yY,JS]at hz
   rintro(hA|⟨r',hr',sz',cap',hκ',hc'⟩)
   .exact g6 hz.2 hA
   .obtain⟨b',hb'⟩:=hk r' hr'
    have hne:r≠r':=fun e=>by subst e;have:=hz.1;simp at this;exact this hr'
    exact H.excl r r' b b' m m _ _ _ _ hne hb hb' h1 hκ' hc hc' rfl
  .simp only[yY,kN]at hz
   rcases hz with hz|hz
   .exact zC ⟨r,by simpa using hz,b.sz,cap,h1,hc⟩
   .exact zF (g7 hz)
def HR.after(H:HR E G w A κ h z){w1:World}(hb:Below w.heap.size w w1){X:Nat->Prop}(hX:∀ b,X b->w.heap.size<=b/\b<w1.heap.size):HR E G w1 (fun b=>A b\/X b) κ h z:=by
 have hcell:∀ b o,A b->w1.cell? ⟨b,o,none⟩=w.cell? ⟨b,o,none⟩:=fun b o hA=>cell?_of_heap (hb.block b (H.alt b hA)) o
 have mono:∀ {d v},RV w A κ d v->RV w1 (fun b=>A b\/X b) κ d v:=fun hv=>hv.mono (fun _ h=>zF h) hcell (fun _ _ h=>h)
 refine⟨H.bel.trans (hb.mono H.hB),wS H.hB hb.size,fun b hb'=>?_,fun b hb=>zF (H.a0 b hb),fun b hb'=>?_,fun b o hb'=>(hcell b o (H.a0 b hb')).trans (H.acell b o hb'),H.k0,fun g e hg=>mono (H.glob g e hg),fun r m sz cap hr=>?_,?_,fun r b hr hκ=>?_,H.excl⟩
 .rcases hb' with h|h
  .exact w9 (H.alt b h) hb.size
  .exact(hX b h).2
 .rcases hb' with h|h
  .exact H.a1 b h
  .exact zC (wS H.hB (hX b h).1)
 .rcases H.klt r m sz cap hr with h|h
  .exact zF h
  .exact zC (w9 h hb.size)
 .have K:=H.kp.below hb
  refine⟨K.own,K.kb,K.kk,fun b hb=>⟨(K.zk b hb).1,?_⟩⟩
  .rintro(h|h)
   .exact(K.zk b hb).2 h
   .have:=(H.kp.kk b (K.zk b hb).1).1;have:=(hX b h).1;omega
 .obtain⟨m,cap,h1,h2,h3,h4⟩:=H.blk r b hr hκ
  refine⟨m,cap,h1,h2,h3,?_⟩;have az:m<w.heap.size->(z r=false->¬ A m)/\(z r=true->A m)->(z r=false->¬ (A m\/X m))/\(z r=true->A m\/X m):=fun hm ⟨g6,g7⟩=>⟨fun hz=>?_,fun hz=>zF (g7 hz)⟩
  .rcases h4 with h4|⟨p,g1,g⟩|⟨c,ty,g1,g2,g3,g4,g5,g⟩
   .exact zF h4
   .have hm:=(kH.1 p.2.2.2).1
    exact zC (zF ⟨⟨p.1,p.2.1,p.2.2.1,by rw[hb.block m hm];exact p.2.2.2⟩,g1,az hm g⟩)
   .have hm:=(kH.1 g2).1
    exact zC (zC ⟨c,ty,g1,by rw[hb.block m hm];exact g2,g3,g4,fun i e he=>(g5 i e he).mono (fun _ h=>zF h) hcell (fun _ _ h=>h),az hm g⟩)
  rintro(h|h)
  .exact g6 hz h
  .have:=(hX m h).1;omega
def HR.adopt(H:HR E G w A κ h z){key sz cap m:Nat}{agg:Bool}{els:List PV}{c:Array Value}{ty:TypeId}(hn:E.n0<=key)(hk:κ key=none)(hz:z key=false)
 (hm:w.heap[m]?=some (.cells c ty (0,0))) (hB:E.B<=m/\(sz=0->agg=true/\zty ty=true)) (hmS:¬ E.K m) (hmA:¬ A m) (hnew:∀ r b m' s c',h r=some b->κ r=some (m',s,c')->c'≠0->m'≠m)
 (hc:c.size=cap*sz) (hl:els.length<=cap) (hu:∀ e∈els,e.cells.length=sz/\e.isAgg=agg) (h1:∀ u∈c.toList,u.oneCell'=true)
 (hlies:∀ i e,els[i]?=some e->lies w A κ c (i*sz) e) :
 HR E G w A (wL κ key (m,sz,cap)) (hset h key (some ⟨els,sz,agg⟩)) z:=by
 have hle:=qW (m,sz,cap) hk;have mono:∀ {d v},RV w A κ d v->RV w A (wL κ key (m,sz,cap)) d v:=fun hv=>hv.mono (fun _ h=>h) (fun _ _ _=>rfl) hle
 have hmlt:=(kH.1 hm).1;refine⟨H.bel,H.hB,H.alt,H.a0,H.a1,H.acell,fun r hr=>?_,fun g e hg=>mono (H.glob g e hg),fun r m' s c' hr=>?_,H.kp.put (fun _ _=>hmS),fun r b hb hκ=>?_,?_⟩
 .rw[wH κ _ zom];exact H.k0 r hr
 .by_cases e:r=key
  .subst e;rw[vG]at hr;cases hr;right;exact hmlt
  .rw[wH κ _ e]at hr;exact H.klt r m' s c' hr
 .by_cases e:r=key
  .subst e
   simp only[hset,uA]at hb;cases hb
   exact⟨m,cap,vG κ r _,hl,hu,zC (zC ⟨c,ty,hB,hm,hc,h1,fun i e he=>(hlies i e he).mono (fun _ h=>h) (fun _ _ _=>rfl) hle,fun _=>hmA,fun hzt=>by rw[hz]at hzt;cases hzt⟩)⟩
  .simp only[hset,zB e]at hb
   obtain⟨m',cap',h2,h3,h4,h5⟩:=H.blk r b hb (by rw[wH κ _ e]at hκ;exact hκ);refine⟨m',cap',by rw[wH κ _ e];exact h2,h3,h4,?_⟩;rcases h5 with h5|h5|⟨c',ty',g1,g2,g3,g4,g5,g6,g7⟩
   .exact zF h5
   .exact zC (zF h5)
   .exact zC (zC ⟨c',ty',g1,g2,g3,g4,fun i e he=>(g5 i e he).mono (fun _ h=>h) (fun _ _ _=>rfl) hle,g6,g7⟩)
 .intro r r' b b' m1 m2 s s' c1 c2 hne hr hr' hk1 hk2 hc1 hc2
  by_cases e:r=key
  .subst e
   rw[vG]at hk1;cases hk1;have e':r'≠r:=fun e=>hne e.symm
   rw[wH κ _ e']at hk2;simp only[hset,zB e']at hr';exact(hnew r' b' m2 s' c2 hr' hk2 hc2).symm
  .rw[wH κ _ e]at hk1
   simp only[hset,zB e]at hr;by_cases e':r'=key
   .subst e'
    rw[vG]at hk2;cases hk2;exact hnew r b m1 s c1 hr hk1 hc1
   .rw[wH κ _ e']at hk2
    simp only[hset,zB e']at hr';exact H.excl r r' b b' m1 m2 s s' c1 c2 hne hr hr' hk1 hk2 hc1 hc2
end
def Gok(G:Gl)(w:World)(A:Nat->Prop):Prop:=∀ g e,G g=some e->RV w A (fun _=>none) (.cptr e 0) (.pointer (some ⟨g,0,none⟩))
section
variable {w:World} {A:Nat->Prop} {κ κ':Ka}
def RV.nr_any:∀ (n:Nat) (d:PV) (v:Value),nr n d=true->RV w A κ d v->RV w A κ' d v:=by
 intro n
 have leaf:∀ (d:PV) (v:Value),nr 0 d=true->RV w A κ d v->RV w A κ' d v:=by
  intro d v hd h;cases h with
  |data _ _ h=>exact .data _ _ h
  |nilsl=>exact .nilsl
  |any=>exact .any _
  |anyb=>exact .anyb _
  |mp=>simp[nr]at hd
  |agg=>simp[nr]at hd
  |tup=>simp[nr]at hd
  |own=>simp[nr]at hd
  |ptr=>simp[nr]at hd
  |func=>simp[nr]at hd
 induction n with
 |zero=>exact leaf
 | succ n ih =>
   intro d v hd h;cases d with
   | agg cs =>
     simp only[nr,xZ]at hd;obtain⟨vs,rfl,h1,h2,h3⟩:=h.agg_inv;exact .agg cs vs h1 (fun i d hi=>ih d _ (hd d (wO hi)) (h2 i d hi)) h3
   | tup cs =>
     simp only[nr,xZ]at hd;obtain⟨vs,rfl,h1,h2⟩:=h.tup_inv;exact .tup cs vs h1 (fun i d hi=>ih d _ (hd d (wO hi)) (h2 i d hi))
   | func fn f c =>
     simp only[nr,xO,xZ]at hd;obtain⟨fs,cs,rfl,h1,h2,h3,h4⟩:=h.func_inv;exact .func fn f c fs cs h1 h2 (fun i d hi=>ih d _ (hd.1 d (wO hi)) (h3 i d hi)) (fun i d hi=>ih d _ (hd.2 d (wO hi)) (h4 i d hi))
   |own=>simp[nr]at hd
   |ptr=>simp[nr]at hd
   |mp=>simp[nr]at hd
   |_=>exact leaf _ v rfl h
end
def RDs(w:World)(A:Nat->Prop)(ds:List PV)(vs:List Value):Prop:=ds.length=vs.length/\∀ i d,ds[i]?=some d->RD w A d (vs.getD i undef)
def CRes.holds (w w':World) (A:Nat->Prop):CRes->Value->Prop
 |.data d,v=>RD w' (fun b=>A b\/(w.heap.size<=b/\b<w'.heap.size)) d v
 | .fresh els sz agg,v=>sz≠0/\∃ a cap,v=.slice a els.length cap/\els.length<=cap/\(∀ e∈els,e.cells.length=sz/\e.isAgg=agg) /\
  (cap=0\/∃ m c ty,a=some ⟨m,0,none⟩/\w.heap.size<=m/\w'.heap[m]?=some (.cells c ty (0,0))/\c.size=cap*sz/\(∀ u∈c.toList,u.oneCell'=true) /\
    ∀ i e,els[i]?=some e->lies w' (fun b=>A b\/(w.heap.size<=b/\b<w'.heap.size/\b≠m)) (fun _=>none) c (i*sz) e)
 |.own _ _ _,_=>False
 |.wrt _ _ _,_=>False
 |.pk _ _ _ _,_=>False
def callable(P:Program)(f:FuncId):Bool :=
 match P.funcs[f]? with
 | some fn => fn.body.isSome && fn.name != "runtime.NumGoroutine"
 |none=>false
def Wd(ro:Option Nat):Fence:={ Fence.wide with round:=ro }
def jT(nx:Nat)(κ:Ka)(h:Hp)(z:Fz):Prop:=∀ r,nx<=r->h r=none/\z r=false/\κ r=none
def FnH(P:Program)(G:Gl):rP:=fun f args K s =>
 callable P f=true/\∀ (E:Env) (w:World) (A:Nat->Prop) (κ:Ka) (vs:List Value),E.n0=s.nx->E.κ0=κ->E.A0=A->E.w1=w->HR E G w A κ s.h s.z->jT s.nx κ s.h s.z->RVs w A κ args vs ->
  Calls P f vs.toArray w fun e w'=>∃ v pv A' κ' s',e=.returned v/\HR E G w' A' κ' s'.h s'.z/\jT s'.nx κ' s'.h s'.z/\s.nx<=s'.nx/\RV w' A' κ' pv v/\K pv s'
def wE(b0:Option Blk):St:=⟨fun _=>.any,match b0 with
 |none=>fun _=>none
 |some b=>hset (fun _=>none) 0 (some b),fun _=>false,1⟩
def ES(res:PV)(b1:Blk)(pv:PV)(s:St):Prop :=
 nrs b1/\A8 b1 res/\((∃ r,pv=rk r res/\s.h r=some b1/\s.z r=false)\/(pv=rkn res/\b1.els=[]))
def Gi(v:PV)(b1:Blk)(pv:PV)(s:St):Prop:=pv=v/\nr 3 v=true/\s.h 0=some b1/\s.z 0=false/\nrs b1
def lsH:List (Nat×Blk)->Hp
 |[],_=>none
 |(k,b)::l,r=>if r=k then some b else lsH l r
def pkK(L:List (Nat×Blk))(N:Nat)(v:PV)(nb:Option Blk)(pv:PV)(s:St):Prop :=
 pv=v/\(nr 3 v=true\/∃ r off len,v=.own r off len/\(r∈L.map (·.1)\/(r=N/\nb≠none)))/\(∀ p∈L,s.h p.1=some p.2/\s.z p.1=false)/\∀ b,nb=some b->s.h N=some b/\s.z N=false/\nrs b
def FnC (P:Program) (G:Gl):wK:=fun f ds r =>
 callable P f=true/\match r with
  |.own b0 res b1=>FnH P G f ds (ES res b1) (wE b0)
  |.wrt b0 v b1=>FnH P G f ds (Gi v b1) (wE (some b0))
  |.pk L N v nb=>FnH P G f ds (pkK L N v nb) ⟨fun _=>.any,lsH L,fun _=>false,N⟩
  | r=>∀ (w:World) (A:Nat->Prop) (vs:List Value),(∀ b,A b->b<w.heap.size)->Gok G w A->RDs w A ds vs ->
    Calls P f vs.toArray w fun e w'=>∃ v,e=.returned v/\Below w.heap.size w w'/\r.holds w w' A v
open Go.RowKit
variable {q:Option Nat}{κ1 κ2:Ka}{args:List PV}{y:PV}{zr:Bool}{r:Nat}{ds:List PV}{b1:Blk}{res:PV}{r2:Nat}{v:Value}{vs:List Value}
section
variable {P:Program} {E:Env} {G:Gl} {w w':World} {A:Nat->Prop} {κ:Ka} {h:Hp} {z:Fz}
def kOf(κ:Ka)(q:Option Nat):Ka:=fun j=>if j=0 then(match q with
 |some r=>κ r
 |none=>none) else none
def Jp(H:HR E G w A κ h z){n:Nat}  {x:PV}{ks:List Nat}{Af:Nat->Prop}(hA:∀ b,A b->Af b)(hks:∀ b,tY κ ks b->Af b)(he:cv1 h n q x=some (y,ks))  (hv:RV w A κ x v):RV w Af (kOf κ q) y v:=by
 have gen:frz h n x=some (y,ks)->RV w Af (kOf κ q) y v:=fun hf=>.data _ _ (ER H hA n x y v ks hf hv hks)
 unfold cv1 at he
 split at he
 .cases he
  rw[hv.nilsl_inv];exact .nilsl
 .rename_i r off len
  split at he
  .rename_i e
   cases he
   obtain⟨m,sz,cap,a,rfl,hκ,hle,ha⟩:=hv.own_inv;exact .own 0 off len m sz cap a (by simp only[kOf,e];exact hκ) hle ha
  .exact gen he
 .rename_i r i off
  split at he
  .rename_i e
   cases he
   obtain⟨m,sz,cap,rfl,hκ⟩:=hv.ptr_inv;exact .ptr 0 i off m sz cap (by simp only[kOf,e];exact hκ)
  .exact gen he
 .exact gen he
def uGT(H:HR E G w A κ h z){n:Nat}  {x:PV}{ks:List Nat}{Af:Nat->Prop}(hA:∀ b,A b->Af b)(hks:∀ b,tY κ ks b->Af b)(he:cv h n q x=some (y,ks))  (hv:RV w A κ x v):RV w Af (kOf κ q) y v:=by
 unfold cv at he
 split at he
 .rename_i cs
  split at he
  .rename_i ds ks' hm
   cases he
   obtain⟨vs,rfl,h1,h2,h3⟩:=hv.agg_inv;obtain⟨g1,g2⟩:=kP hm;refine .agg ds vs (by rw[h1,g1]) (fun i d hd=>?_) (fun i hi=>h3 i zom);obtain⟨x,ks1,e1,e2,e3⟩:=g2 i d hd;exact Jp H hA (fun b ⟨r,hr,hb⟩=>hks b ⟨r,e3 r hr,hb⟩) e2 (h2 i x e1)
  .cases he
 .rename_i fn f c
  split at he
  .rename_i fs ks1 cs ks2 hm1 hm2
   cases he
   obtain⟨us,vs,rfl,h1,h2,h3,h4⟩:=hv.func_inv;obtain⟨g1,g2⟩:=kP hm1;obtain⟨g3,g4⟩:=kP hm2;refine .func fn fs cs us vs zom zom (fun i d hd=>?_) (fun i d hd=>?_)
   .obtain⟨x,ks',e1,e2,e3⟩:=g2 i d hd
    exact Jp H hA (fun b ⟨r,hr,hb⟩=>hks b ⟨r,sV _ (e3 r hr),hb⟩) e2 (h3 i x e1)
   .obtain⟨x,ks',e1,e2,e3⟩:=g4 i d hd
    exact Jp H hA (fun b ⟨r,hr,hb⟩=>hks b ⟨r,pJ _ (e3 r hr),hb⟩) e2 (h4 i x e1)
  .cases he
 .exact Jp H hA hks he hv
def Jq{n:Nat}  {x:PV}{ks:List Nat}(he:cv1 h n q x=some (y,ks)):∀ r∈ks,∃ b,h r=some b:=by
 unfold cv1 at he
 split at he
 .cases he;intro r hr;cases hr
 .split at he
  .cases he;intro r hr;cases hr
  .exact Gh _ _ _ _ he
 .split at he
  .cases he;intro r hr;cases hr
  .exact Gh _ _ _ _ he
 .exact Gh _ _ _ _ he
def BF{f:PV->Option (PV×List Nat)}(hf:∀ x y ks,f x=some (y,ks)->∀ r∈ks,∃ b,h r=some b):∀ {l ds:List PV} {ks:List Nat},zZ f l=some (ds,ks)->∀ r∈ks,∃ b,h r=some b
 | [],ds,ks,he=>by
   simp only[zZ]at he;cases he;intro r hr;cases hr
 | x :: l,ds,ks,he=>by
   simp only[zZ]at he
   split at he
   .rename_i d ks1 ds' ls h1 h2
    cases he
    intro r hr;rcases y8.1 hr with hr|hr
    .exact hf _ _ _ h1 r hr
    .exact BF hf h2 r hr
   .cases he
def Jr{n:Nat}  {x:PV}{ks:List Nat}(he:cv h n q x=some (y,ks)):∀ r∈ks,∃ b,h r=some b:=by
 unfold cv at he
 split at he
 .split at he
  .rename_i hm;cases he;exact BF (fun _ _ _ e=>Jq e) hm
  .cases he
 .split at he
  .rename_i h1 h2
   cases he
   intro r hr;rcases y8.1 hr with hr|hr
   .exact BF (fun _ _ _ e=>Jq e) h1 r hr
   .exact BF (fun _ _ _ e=>Jq e) h2 r hr
  .cases he
 .exact Jq he
def HR.gok{h:Hp}{z:Fz}(H:HR E G w A κ h z):Gok G w A:=fun g e hg=>by
 obtain⟨b,o,val,hv,hA,hc,hd⟩:=(H.glob g e hg).cptr_inv;rw[hv];exact .data _ _ (.cptr e 0 b o val hA hc hd)
def uW2{d:PV}(h:nr 2 d=true):nr 3 d=true:=by
 have up1:∀ d,nr 0 d=true->nr 1 d=true:=fun d h=>by cases d<;>first|rfl|(simp[nr]at h)
 have up2:∀ d,nr 1 d=true->nr 2 d=true:=fun d h=>by
  cases d with
  |agg cs=>simp only[nr,xZ]at h ⊢;exact fun x hx=>up1 x (h x hx)
  |tup cs=>simp only[nr,xZ]at h ⊢;exact fun x hx=>up1 x (h x hx)
  |func fn f c=>simp only[nr,xZ,xO]at h ⊢;exact⟨fun x hx=>up1 x (h.1 x hx),fun x hx=>up1 x (h.2 x hx)⟩
  |_=>first|rfl|(simp[nr]at h)
 cases d with
 |agg cs=>simp only[nr,xZ]at h ⊢;exact fun x hx=>up2 x (h x hx)
 |tup cs=>simp only[nr,xZ]at h ⊢;exact fun x hx=>up2 x (h x hx)
 |func fn f c=>simp only[nr,xZ,xO]at h ⊢;exact⟨fun x hx=>up2 x (h.1 x hx),fun x hx=>up2 x (h.2 x hx)⟩
 |_=>first|rfl|(simp[nr]at h)
def uP0{e:PV}(h:nr 3 e=true){j:Nat}{d:PV}(hd:e.cells[j]?=some d):nr 3 d=true:=by
 cases e<;>simp only[PV.cells]at hd<;>first
  |(cases j<;>simp at hd<;>subst hd<;>exact h)
  | (simp only[nr,xZ]at h
     have:=h d (wO hd)
     exact uW2 this)
def Nr{A':Nat->Prop}  {key len:Nat}(hk:κ2 key=κ1 r){c:PV}(hc:c=.own 0 0 len\/nr 3 c=true)  (hv:RV w A' κ1 (rk1 r c) v):RV w A' κ2 (rk1 key c) v:=by
 rcases hc with rfl|hc
 .obtain⟨m,sz,cap,a,rfl,h1,hle,ha⟩:=RV.own_inv (show RV w A' κ1 (.own r 0 len) v from hv)
  exact .own key 0 len m sz cap a (by rw[hk];exact h1) hle ha
 .have e:∀ q,rk1 q c=c:=fun q=>by cases c<;>first|rfl|(simp[nr]at hc)
  rw[e]at hv ⊢;exact RV.nr_any 3 c v hc hv
def uDD{A':Nat->Prop}  {key:Nat}   (hk:κ2 key=κ1 r)(ho:A8 b1 res)  (hv:RV w A' κ1 (rk r res) v):RV w A' κ2 (rk key res) v:=by
 rcases ho with ho|⟨rfl,hne⟩
 rotate_left
 .obtain⟨m,sz,cap,rfl,h1⟩:=RV.ptr_inv (show RV w A' κ1 (.ptr r 0 0) v from hv)
  exact .ptr key 0 0 m sz cap (by rw[hk];exact h1)
 have one:(∀ cs,res≠.agg cs)->(∀ cs,res≠.tup cs)->RV w A' κ2 (rk key res) v:=fun hn hn2=>by
  have e:∀ q,rk q res=rk1 q res:=fun q=>by cases res<;>first|rfl|exact absurd rfl (hn _)|exact absurd rfl (hn2 _)
  have e2:dN res=[res]:=by cases res<;>first|rfl|exact absurd rfl (hn _)|exact absurd rfl (hn2 _)
  rw[e]at hv ⊢;exact Nr hk (ho.1 res (by rw[e2];simp)) hv
 cases res with
 | tup cs =>
   obtain⟨vs,rfl,h1,h2⟩:=RV.tup_inv (show RV w A' κ1 (.tup (cs.map (rk1 r))) v from hv);refine .tup _ vs (by simpa using h1) (fun i d hd=>?_);simp only[uF,pI]at hd;obtain⟨c,hc,rfl⟩:=hd;exact Nr hk (ho.1 c (wO hc)) (h2 i _ (by simp[hc]))
 | agg cs =>
   obtain⟨vs,rfl,h1,h2,h3⟩:=RV.agg_inv (show RV w A' κ1 (.agg (cs.map (rk1 r))) v from hv);refine .agg _ vs (by simpa using h1) (fun i d hd=>?_) (fun i hi=>h3 i (by simpa using hi));simp only[uF,pI]at hd;obtain⟨c,hc,rfl⟩:=hd;exact Nr hk (ho.1 c (wO hc)) (h2 i _ (by simp[hc]))
 |_=>exact one (fun _ e=>by cases e) (fun _ e=>by cases e)
def vVB{A':Nat->Prop}  {key sz:Nat}   (hk:κ2 key=some (0,sz,0))(h0:b1.els=[])(ho:A8 b1 res)  (hv:RV w A' κ1 (rkn res) v):RV w A' κ2 (rk key res) v:=by
 rcases ho with ho|⟨rfl,hne⟩
 rotate_left
 .exact absurd h0 hne
 have one:∀ {c:PV} {u:Value},(c=.own 0 0 b1.els.length\/nr 3 c=true)->RV w A' κ1 (A7 c) u->RV w A' κ2 (rk1 key c) u:=fun {c u} hc hu=>by
  rcases hc with rfl|hc
  .rw[h0]
   rw[RV.nilsl_inv (show RV w A' κ1 .nilsl u from hu)];exact EQ hk none
  .have e:∀ q,rk1 q c=c:=fun q=>by cases c<;>first|rfl|(simp[nr]at hc)
   have e':A7 c=c:=by cases c<;>first|rfl|(simp[nr]at hc)
   rw[e']at hu;rw[e];exact RV.nr_any 3 c u hc hu
 have single:(∀ cs,res≠.agg cs)->(∀ cs,res≠.tup cs)->RV w A' κ2 (rk key res) v:=fun hn hn2=>by
  have e:rk key res=rk1 key res:=by cases res<;>first|rfl|exact absurd rfl (hn _)|exact absurd rfl (hn2 _)
  have e1:rkn res=A7 res:=by cases res<;>first|rfl|exact absurd rfl (hn _)|exact absurd rfl (hn2 _)
  have e2:dN res=[res]:=by cases res<;>first|rfl|exact absurd rfl (hn _)|exact absurd rfl (hn2 _)
  rw[e];rw[e1]at hv;exact one (ho.1 res (by rw[e2];simp)) hv
 cases res with
 | tup cs =>
   obtain⟨vs,rfl,h1,h2⟩:=RV.tup_inv (show RV w A' κ1 (.tup (cs.map A7)) v from hv);refine .tup _ vs (by simpa using h1) (fun i d hd=>?_);simp only[uF,pI]at hd;obtain⟨c,hc,rfl⟩:=hd;exact one (ho.1 c (wO hc)) (h2 i _ (by simp[hc]))
 | agg cs =>
   obtain⟨vs,rfl,h1,h2,h3⟩:=RV.agg_inv (show RV w A' κ1 (.agg (cs.map A7)) v from hv);refine .agg _ vs (by simpa using h1) (fun i d hd=>?_) (fun i hi=>h3 i (by simpa using hi));simp only[uF,pI]at hd;obtain⟨c,hc,rfl⟩:=hd;exact one (ho.1 c (wO hc)) (h2 i _ (by simp[hc]))
 |_=>exact single (fun _ e=>by cases e) (fun _ e=>by cases e)
def Told.to    {b:Blk}(h:Told E w A κ zr r b)(hm:∀ e∈b.els,∀ (j:Nat) d,e.cells[j]?=some d->∀ v,RV w A κ d v->RV w A κ2 d v)(hk:κ2 r2=κ r):Told E w A κ2 zr r2 b:=by
 obtain⟨m,cap,g1,g2,g3,g4⟩:=h;refine⟨m,cap,hk.trans g1,g2,g3,g4.imp_right (Or.imp_right fun⟨c,ty,e1,e2,e3,e4,e5,e6⟩=>⟨c,ty,e1,e2,e3,e4,fun i e he j d hd=>?_,e6⟩)⟩;obtain⟨v,p1,p2,p3⟩:=e5 i e he j d hd;exact⟨v,p1,hm e (wO he) j d hd v p2,p3⟩
def Told.key    {b:Blk}(h:Told E w A κ zr r b)(hn:nrs b)(hk:κ2 r2=κ r):Told E w A κ2 zr r2 b:=h.to (fun e he j d hd v hv=>RV.nr_any 3 d v (uP0 (hn e he) hd) hv) hk
structure AddB(E:Env)(w:World)(A:Nat->Prop)(κ:Ka)(h0:Hp)(z:Fz)(r:Nat)(b:Blk):Prop where
 zf:z r=false
 blk:κ r≠none->Told E w A κ false r b
 own:∀ m sz cap,κ r=some (m,sz,cap)->cap≠0->¬ E.K m/\∀ r' b' m' s c',h0 r'=some b'->κ r'=some (m',s,c')->c'≠0->m'≠m
def HR.addL(H:HR E G w A κ h z){h1:Hp}{rs:List Nat}(h0:∀ r b,h1 r=some b->(r∉rs/\h r=some b)\/(r∈rs/\AddB E w A κ h z r b))
 (hx:∀ r r' m m' s s' c c',r∈rs->r'∈rs->r≠r'->κ r=some (m,s,c)->κ r'=some (m',s',c')->c≠0->c'≠0->m≠m'):HR E G w A κ h1 z:=by
 refine⟨H.bel,H.hB,H.alt,H.a0,H.a1,H.acell,H.k0,H.glob,H.klt,⟨fun p b m sz cap hp hk hc hzp=>?_,H.kp.kb,H.kp.kk,H.kp.zk⟩,fun p b hp hκ=>?_,fun p p' b b' m m' s s' c c' hne hp hp' hk hk' hc hc'=>?_⟩
 .rcases h0 p b hp with⟨_,q⟩|⟨_,q⟩
  .exact H.kp.own p b m sz cap q hk hc hzp
  .exact(q.own m sz cap hk hc).1
 .rcases h0 p b hp with⟨_,q⟩|⟨_,q⟩
  .exact H.blk p b q hκ
  .rw[q.zf];exact q.blk hκ
 .rcases h0 p b hp with⟨n1,q⟩|⟨n1,q⟩
  .rcases h0 p' b' hp' with⟨n2,q'⟩|⟨n2,q'⟩
   .exact H.excl p p' b b' m m' s s' c c' hne q q' hk hk' hc hc'
   .exact(q'.own m' s' c' hk' hc').2 p b m s c q hk hc
  .rcases h0 p' b' hp' with⟨n2,q'⟩|⟨n2,q'⟩
   .exact((q.own m s c hk hc).2 p' b' m' s' c' q' hk' hc').symm
   .exact hx p p' m m' s s' c c' n1 n2 hne hk hk' hc hc'
def dR(κ:Ka)(key:Nat)(x:Option (Nat×Nat×Nat)):Ka:=fun r=>if r=key then x else κ r
def Ug{κ:Ka}{key:Nat}{x:Option (Nat×Nat×Nat)}(e:r≠key):dR κ key x r=κ r:=zB e
def HR.kputs(H:HR E G w A κ h z){key:Nat}(hn:E.n0<=key)(hk:κ key=none)(hh:h key=none){x:Option (Nat×Nat×Nat)}(hx:∀ m sz cap,x=some (m,sz,cap)->cap=0\/m<w.heap.size) :
 HR E G w A (dR κ key x) h z:=by
 have hne:∀ r,r≠key->dR κ key x r=κ r:=fun r e=>zB e
 have up:∀ r y,κ r=some y->dR κ key x r=some y:=fun r y e=>by
  rw[hne r fun e'=>by rw[e',hk]at e;cases e];exact e
 have hr:∀ r b,h r=some b->r≠key:=fun r b e e'=>by rw[e',hh]at e;cases e
 refine⟨H.bel,H.hB,H.alt,H.a0,H.a1,H.acell,fun r hr0=>by rw[hne r zom];exact H.k0 r hr0,fun g e hg=>(H.glob g e hg).mono (fun _ h=>h) (fun _ _ _=>rfl) up,fun r m sz cap e=>?_,
  ⟨fun r b m sz cap e1 e2=>?_,H.kp.kb,H.kp.kk,H.kp.zk⟩,fun r b e1 e2=>?_,fun r r' b b' m m' s s' c c' e0 e1 e2 e3 e4=>?_⟩
 .by_cases e1:r=key
  .exact hx m sz cap (by simpa [dR,e1]using e)
  .rw[hne r e1]at e;exact H.klt r m sz cap e
 .rw[hne r (hr r b e1)]at e2;exact H.kp.own r b m sz cap e1 e2
 .rw[hne r (hr r b e1)]at e2
  exact(H.blk r b e1 e2).to (fun e he j d hd v hv=>hv.mono (fun _ h=>h) (fun _ _ _=>rfl) up) (hne r (hr r b e1))
 .rw[hne r (hr r b e1)]at e3;rw[hne r' (hr r' b' e2)]at e4
  exact H.excl r r' b b' m m' s s' c c' e0 e1 e2 e3 e4
structure Framed(E:Env)(G:Gl)(w w':World)(A A':Nat->Prop)(κ κ':Ka)(h:Hp)(z:Fz)(q:Option (Nat×Blk))(ks:List Nat)(s':St)(ex:Nat->Prop):Prop where
 hr:HR E G w' A' κ (mY h q) (yY z ks)
 le:∀ b,A b->A' b
 cell:∀ b o,A b->w'.cell? ⟨b,o,none⟩=w.cell? ⟨b,o,none⟩
 zero:κ' 0=kOf κ (q.map (·.1)) 0
 blk:∀ r b,s'.h r=some b->κ' r≠none->Told E w' A' κ' (s'.z r) r b
 klt:∀ r m sz cap,κ' r=some (m,sz,cap)->cap=0\/m<w'.heap.size
 own:∀ r b m sz cap,s'.h r=some b->κ' r=some (m,sz,cap)->cap≠0->s'.z r=false->w.heap.size<=m\/ex m
 ex1:∀ m,ex m->¬ E.K m
 exk:∀ r b m s c,mY h q r=some b->κ r=some (m,s,c)->c≠0->¬ ex m
def Uh(H:HR E G w A κ h z){n:Nat}{q:Option (Nat×Blk)}  {ks:List Nat}{K:PV->St->Prop}{f:FuncId} 
 (hq:∀ r b,q=some (r,b)->h r=some b/\z r=false/\r∉ks/\nrs b) (hcv:zZ (cv h n (q.map (·.1))) args=some (ds,ks)) (hargs:RVs w A κ args vs) (hF:FnH P G f ds K (wE (q.map (·.2)))) :
 Calls P f vs.toArray w fun e w'=>∃ v pv A' κ' s' ex,e=.returned v/\RV w' A' κ' pv v/\K pv s'/\Framed E G w w' A A' κ κ' h z q ks s' ex:=by
 have hkeys:∀ r∈ks,∃ b,h r=some b:=BF (fun _ _ _ e=>Jr e) hcv;have Hf:=H.freeze hkeys;let ex:Nat->Prop:=fun b'=>∃ r b sz cap,q=some (r,b)/\κ r=some (b',sz,cap)/\cap≠0
 have hzf:∀ r b,q=some (r,b)->yY z ks r=false:=fun r b e=>by
  obtain⟨_,h2,h3,_⟩:=hq r b e;simp only[yY,h2,nW]
  simpa using h3
 have hex:∀ b',ex b'->¬ (A b'\/tY κ ks b')/\¬ E.K b'/\E.B<=b':=by
  rintro b' ⟨r,b,sz,cap,e,hκ,hc0⟩
  obtain⟨h1,h2,h3,h4⟩:=hq r b e;obtain⟨m,cap',g1,_,_,g4⟩:=Hf.blk r b h1 (by rw[hκ];simp);rw[hκ]at g1;cases g1;have ho:=H.kp.own r b b' _ cap h1 hκ hc0 h2;rcases g4.resolve_left hc0 with⟨_,e1,e6,_⟩|⟨c,ty,⟨e1,_⟩,e2,e3,e4,e5,e6,e7⟩<;>exact⟨e6 (hzf r b e),ho,e1⟩
 let K':Nat->Prop:=fun b=>b<w.heap.size/\¬ ex b
 let Es:Env:={ w0:=E.w0,w1:=w,B:=E.B,A0:=fun b=>A b\/tY κ ks b,n0:=1,κ0:=kOf κ (q.map (·.1)),K:=K',Z:=fun b=>K' b/\¬ (A b\/tY κ ks b),kw:=w }
 have h0:∀ r0 b,(wE (q.map (·.2))).h r0=some b->r0=0/\∃ r,q=some (r,b):=fun r0 b hb=>by
  cases q with
  |none=>simp[wE]at hb
  | some q =>
    obtain⟨r,b'⟩:=q;simp only[wE,Option.map_some,hset]at hb
    split at hb
    .rename_i e;cases hb;exact⟨e,r,rfl⟩
    .cases hb
 have Hs:HR Es G w (fun b=>A b\/tY κ ks b) (kOf κ (q.map (·.1))) (wE (q.map (·.2))).h (wE (q.map (·.2))).z:=by
  refine⟨H.bel,H.hB,Hf.alt,fun b hb=>hb,fun b hb=>zF hb,fun _ _ _=>rfl,fun r hr=>rfl,fun g e hg=>?_,fun r m sz cap hr=>?_,⟨fun r b m sz cap hr hκ hc hz'=>?_,Below.refl _ _,fun b hb=>⟨hb.1,rfl⟩,fun b hb=>hb⟩,fun r0 b hr hκ=>?_,fun r r' b b' m m' s s' c c' hne hr hr'=>?_⟩
  .have:=Hf.gok g e hg
   exact RV.nr_any 3 _ _ rfl this
  .cases q with
   |none=>simp[kOf]at hr
   | some q =>
     simp only[kOf,Option.map_some]at hr
     split at hr
     .exact H.klt q.1 m sz cap hr
     .cases hr
  .obtain⟨rfl,r',e⟩:=h0 r b hr
   subst e;intro hK;exact hK.2 ⟨r',b,sz,cap,rfl,by simpa [kOf]using hκ,hc⟩
  .obtain⟨rfl,r',e⟩:=h0 r0 b hr
   subst e;obtain⟨h1,h2,h3,h4⟩:=hq r' b rfl;have hκ':κ r'≠none:=by simpa [kOf]using hκ
   have:=(Hf.blk r' b h1 hκ').key (κ2:=kOf κ (some r')) (r2:=0) h4 rfl;rw[hzf r' b rfl]at this;exact this
  .obtain⟨rfl,_⟩:=h0 r b hr
   obtain⟨rfl,_⟩:=h0 r' b' hr';exact absurd rfl hne
 have hfresh:jT 1 (kOf κ (q.map (·.1))) (wE (q.map (·.2))).h (wE (q.map (·.2))).z:=fun r hr=>by
  refine⟨?_,rfl,by simp[kOf];omega⟩;cases hb:(wE (q.map (·.2))).h r with
  |none=>rfl
  |some b=>have:=(h0 r b hb).1;omega
 have hRV:RVs w (fun b=>A b\/tY κ ks b) (kOf κ (q.map (·.1))) ds vs:=by
  obtain⟨g1,g2⟩:=kP hcv;refine⟨g1.trans hargs.1,fun i d hd=>?_⟩;obtain⟨x,ks',e1,e2,e3⟩:=g2 i d hd;exact uGT H (fun b hb=>zF hb) (fun b ⟨r,hr,hb⟩=>zC ⟨r,e3 r hr,hb⟩) e2 (hargs.2 i x e1)
 refine(hF.2 Es w _ _ vs rfl rfl rfl rfl Hs hfresh hRV).mono fun e w' ⟨v,pv,A',κ',s',h1,h2,h3,_,h5,h6⟩=>?_
 have hb0:Below 0 w w':=h2.kp.kb;have hpres:∀ b,b<w.heap.size->¬ ex b->w'.heap[b]?=w.heap[b]?:=fun b hb hx=>(h2.kp.kk b ⟨hb,hx⟩).2
 have hA':∀ b,(A b\/tY κ ks b)->A' b:=h2.a0
 have hnew:∀ b,A' b->(A b\/tY κ ks b)\/w.heap.size<=b\/ex b:=fun b hb=>by
  rcases nD b w.heap.size with hlt|hge
  .by_cases hx:ex b
   .exact zC (zC hx)
   .by_cases hA:A b\/tY κ ks b
    .exact zF hA
    .exact absurd hb (h2.kp.zk b ⟨⟨hlt,hx⟩,hA⟩).2
  .exact zC (zF hge)
 have Hd:HR E G w (fun b=>A b\/tY κ ks b) κ (mY h q) (yY z ks):=by
  cases q with
  |none=>exact Hf
  |some q=>exact Hf.drop q.1
 have hdrop:∀ r b,mY h q r=some b->h r=some b/\∀ r' b',q=some (r',b')->r≠r':=fun r b hb=>by
  cases q with
  |none=>exact⟨hb,fun _ _ e=>by cases e⟩
  | some q =>
    simp only[mY,hset]at hb
    split at hb
    .cases hb
    .rename_i hne;exact⟨hb,fun r' b' e=>by cases e;exact hne⟩
 have hexk:∀ r b m s c,mY h q r=some b->κ r=some (m,s,c)->c≠0->¬ ex m:=by
  rintro r b m s c hr hκ hc ⟨r',b',sz,cap,e,hκ',hc'⟩
  obtain⟨g1,g2⟩:=hdrop r b hr;exact H.excl r r' b b' m m s sz c cap (g2 r' b' e) g1 (hq r' b' e).1 hκ hκ' hc hc' rfl
 have Hw:=Hd.stepW hb0 h2.bel (ex:=ex) hpres hex hexk hA' hnew h2.alt;refine⟨v,pv,A',κ',s',ex,h1,h5,h6,Hw,fun b hA=>hA' b (zF hA),fun b o hA=>cell?_of_heap (hpres b (H.alt b hA) fun hx=>(hex b hx).1 (zF hA)) o,h2.k0 0 (by show 0<1;omega),h2.blk,h2.klt,fun r b m sz cap hb hk hc hz=>?_,fun m hm=>(hex m hm).2.1,hexk⟩;rcases nD m w.heap.size with hlt|hge
 .right
  refine kJ fun hx=>?_
  exact(h2.kp.own r b m sz cap hb hk hc hz) ⟨hlt,hx⟩
 .exact zF hge
def vV7(H:HR E G w A κ h z){key n:Nat}(hn:E.n0<=key)(hk:κ key=none)(hz:z key=false)(hhk:h key=none){q:Option (Nat×Blk)}  {ks:List Nat}   {f:FuncId} 
 (hq:∀ r b,q=some (r,b)->h r=some b/\z r=false/\r∉ks/\nrs b) (hcv:zZ (cv h n (q.map (·.1))) args=some (ds,ks)) (hargs:RVs w A κ args vs) (hF:FnH P G f ds (ES res b1) (wE (q.map (·.2)))) :
 Calls P f vs.toArray w fun e w'=>∃ v A' κ',e=.returned v/\HR E G w' A' κ' (hset (mY h q) key (some b1)) (yY z ks)/\RV w' A' κ' (rk key res) v/\(∀ r x,κ r=some x->κ' r=some x)/\(∀ r,r≠key->κ' r=κ r) /\
  (∀ b,A b->A' b)/\∀ b o,A b->w'.cell? ⟨b,o,none⟩=w.cell? ⟨b,o,none⟩:=by
 have hkeys:∀ r∈ks,∃ b,h r=some b:=BF (fun _ _ _ e=>Jr e) hcv;refine(Uh H hq hcv hargs hF).mono fun e w' ⟨v,pv,A',κ',s',ex,h1,h5,⟨hnrs,hok,h6⟩,FR⟩=>?_
 have Hw:=FR.hr
 have hkz:yY z ks key=false:=by
  simp only[yY,hz,nW];simp only[NC,CQ];intro hm;obtain⟨bk,hbk⟩:=hkeys key hm;rw[hhk]at hbk;cases hbk
 have hcellA:=FR.cell;rcases h6 with⟨r',hpv,hb1,hz1⟩|⟨hpv,he⟩
 .subst hpv
  have hdk:mY h q key=none:=by cases q<;>simp[mY,hset,hhk]
  have Hk:=Hw.kputs hn hk hdk (x:=κ' r') fun m sz cap e=>FR.klt r' m sz cap e
  refine⟨v,A',dR κ key (κ' r'),h1,?_,uDD (zE rfl) hok h5,fun r x e=>by rw[Ug fun e'=>by rw[e',hk]at e;cases e];exact e,fun r e=>zB e,FR.le,hcellA⟩;refine Hk.addL (rs:=[key]) (fun r b hb=>?_) fun r r' m m' s s' c c' hr hr' hne=>absurd ((yG.1 hr).trans (yG.1 hr').symm) hne
  by_cases e:r=key
  .subst e
   simp only[hset,uA]at hb;cases hb
   refine zC ⟨zsm,hkz,fun hκ=>?_,fun m sz cap e hc=>?_⟩
   .have:=(FR.blk r' b1 hb1 (by rw[show dR κ r (κ' r') r=κ' r' from zE rfl]at hκ;exact hκ)).key (κ2:=dR κ r (κ' r')) (r2:=r) hnrs (zE rfl)
    rw[hz1]at this;exact this
   .rw [show dR κ r (κ' r') r=κ' r' from zE rfl]at e
    have hm':=FR.own r' b1 m sz cap hb1 e hc hz1;refine⟨fun hK=>?_,fun p b m3 s3 c3 hp hκp hc3 e'=>?_⟩
    .rcases hm' with hge|hx
     .have:=(H.kp.kk m hK).1;omega
     .exact FR.ex1 m hx hK
    .subst e'
     rw[Ug fun e'=>by rw[e',hdk]at hp;cases hp]at hκp;rcases hm' with hge|hx
     .rcases H.klt p m3 s3 c3 hκp with h|h
      .exact hc3 h
      .omega
     .exact FR.exk p b m3 s3 c3 hp hκp hc3 hx
  .exact zF ⟨by simpa using e,by simpa [hset,e]using hb⟩
 .subst hpv
  have HE:=Hw.empty (key:=key) (sz:=b1.sz) (agg:=b1.agg) hn hk;rw[show(⟨[],b1.sz,b1.agg⟩:Blk)=b1 by obtain⟨x,y,t⟩:=b1;dsimp only at he;subst he;rfl]at HE;exact⟨v,A',wL κ key (0,b1.sz,0),h1,HE,vVB (vG ..) he hok h5,qW _ hk,fun r hr=>wH κ _ hr,FR.le,hcellA⟩
def vYC(H:HR E G w A κ h z){n:Nat}{b0:Blk}  {ks:List Nat}{v0:PV}{f:FuncId} 
 (hr:h r=some b0) (hz:z r=false) (hrk:r∉ks) (hn:nrs b0) (hcv:zZ (cv h n (some r)) args=some (ds,ks)) (hargs:RVs w A κ args vs) (hF:FnH P G f ds (Gi v0 b1) (wE (some b0))) :
 Calls P f vs.toArray w fun e w'=>∃ v A',e=.returned v/\HR E G w' A' κ (hset h r (some b1)) (yY z ks)/\RV w' A' κ v0 v/\(∀ b,A b->A' b)/\∀ b o,A b->w'.cell? ⟨b,o,none⟩=w.cell? ⟨b,o,none⟩:=by
 refine(Uh H (q:=some (r,b0)) (K:=Gi v0 b1) (fun r' b' e=>by cases e;exact⟨hr,hz,hrk,hn⟩) hcv hargs hF).mono fun e w' ⟨v,pv,A',κ',s',ex,h1,h5,⟨hpv,hnv,hb1,hz1,hnrs⟩,FR⟩=>?_
 subst hpv
 have hzf:yY z ks r=false:=by
  simp only[yY,hz,nW];simpa using hrk
 have h0:κ' 0=κ r:=by rw[FR.zero];rfl
 refine⟨v,A',h1,HR.addL FR.hr (rs:=[r]) (fun p b hb=>?_) fun r r' m m' s s' c c' hr hr' hne=>absurd ((yG.1 hr).trans (yG.1 hr').symm) hne,RV.nr_any 3 _ _ hnv h5,FR.le,FR.cell⟩;by_cases e:p=r
 .subst e
  simp only[hset,uA]at hb;cases hb
  refine zC ⟨zsm,hzf,fun hκ=>?_,fun m sz cap e hc=>?_⟩
  .have:=(FR.blk 0 b1 hb1 (by rw[h0];exact hκ)).key hnrs h0.symm
   rw[hz1]at this;exact this
  .rw [<- h0]at e
   have hm:=FR.own 0 b1 m sz cap hb1 e hc hz1;refine⟨fun hK=>?_,fun r' b m' s c' hr' hk' hc' e=>?_⟩
   .rcases hm with hge|hx
    .have:=(H.kp.kk m hK).1;omega
    .exact FR.ex1 m hx hK
   .subst e
    rcases hm with hge|hx
    .rcases H.klt r' m' s c' hk' with h|h
     .exact hc' h
     .omega
    .exact FR.exk r' b m' s c' hr' hk' hc' hx
 .exact zF ⟨by simpa using e,by simpa [mY,hset,e]using hb⟩
end
open Go.RowKit
variable {N:Nat}
section
variable {P:Program} {E:Env} {G:Gl} {w w':World} {A:Nat->Prop} {κ:Ka} {h:Hp} {z:Fz}
def HR.less(H:HR E G w A κ h z){h0:Hp}(hs:∀ r b,h0 r=some b->h r=some b):HR E G w A κ h0 z :=
 ⟨H.bel,H.hB,H.alt,H.a0,H.a1,H.acell,H.k0,H.glob,H.klt,⟨fun r b m sz cap hr=>H.kp.own r b m sz cap (hs r b hr),H.kp.kb,H.kp.kk,H.kp.zk⟩,
   fun r b hb=>H.blk r b (hs r b hb),fun p q bp bq m m' s s' c c' hne hp hq=>H.excl p q bp bq m m' s s' c c' hne (hs p bp hp) (hs q bq hq)⟩
end
def Js:∀ {L:List (Nat×Blk)} {r:Nat} {b:Blk},lsH L r=some b->(r,b)∈L
 |[],_,_,h=>by cases h
 | (k,c)::l,r,b,h=>by
   unfold lsH at h
   split at h
   .rename_i e;cases h;subst e;exact tT ..
   .exact xN _ (Js h)
def Ui{L:List (Nat×Blk)}{r:Nat}(h:∀ p∈L,p.1≠r):lsH L r=none:=by
 cases e:lsH L r with
 |none=>rfl
 |some b=>exact absurd rfl (h _ (Js e))
def Ns{w:World}{A:Nat->Prop}{κ κ':Ka}  (hk:∀ r x,r<N->κ r=some x->κ' r=some x):∀ (n:Nat) (d:PV) (v:Value),kl N n d=true->RV w A κ d v->RV w A κ' d v:=by
 have leaf:∀ (d:PV) (v:Value),nr 0 d=true->RV w A κ d v->RV w A κ' d v:=fun d v h1 h2=>RV.nr_any 0 d v h1 h2
 have ow:∀ r off len v,r<N->RV w A κ (.own r off len) v->RV w A κ' (.own r off len) v:=fun r off len v hr h=>by
  obtain⟨m,sz,cap,a,rfl,h1,hle,ha⟩:=h.own_inv;exact .own r off len m sz cap a (hk r _ hr h1) hle ha
 have mq:∀ r v,r<N->RV w A κ (.mp r) v->RV w A κ' (.mp r) v:=fun r v hr h=>by
  obtain⟨m,sz,cap,rfl,h1,h2⟩:=h.mp_inv;exact .mp r m sz cap (hk r _ hr h1) h2
 have pt:∀ r i off v,r<N->RV w A κ (.ptr r i off) v->RV w A κ' (.ptr r i off) v:=fun r i off v hr h=>by
  obtain⟨m,sz,cap,rfl,h1⟩:=h.ptr_inv;exact .ptr r i off m sz cap (hk r _ hr h1)
 intro n
 induction n with
 | zero =>
   intro d v hd h;cases d with
   |own r off len=>exact ow r off len v (by simpa [kl]using hd) h
   |ptr r i off=>exact pt r i off v (by simpa [kl]using hd) h
   |mp r=>exact mq r v (by simpa [kl]using hd) h
   |agg cs=>simp[kl]at hd
   |tup cs=>simp[kl]at hd
   |func fn f c=>simp[kl]at hd
   |_=>exact leaf _ v rfl h
 | succ n ih =>
   intro d v hd h;cases d with
   |own r off len=>exact ow r off len v (by simpa [kl]using hd) h
   |ptr r i off=>exact pt r i off v (by simpa [kl]using hd) h
   |mp r=>exact mq r v (by simpa [kl]using hd) h
   | agg cs =>
     simp only[kl,xZ]at hd;obtain⟨vs,rfl,hl,h1,h2⟩:=h.agg_inv;exact .agg cs vs hl (fun i d hi=>ih d _ (hd d (wO hi)) (h1 i d hi)) h2
   | tup cs =>
     simp only[kl,xZ]at hd;obtain⟨vs,rfl,hl,h1⟩:=h.tup_inv;exact .tup cs vs hl (fun i d hi=>ih d _ (hd d (wO hi)) (h1 i d hi))
   | func fn f c =>
     simp only[kl,xO,xZ]at hd;obtain⟨fs,cs,rfl,h1,h2,h3,h4⟩:=h.func_inv;exact .func fn f c fs cs h1 h2 (fun i d hi=>ih d _ (hd.1 d (wO hi)) (h3 i d hi)) (fun i d hi=>ih d _ (hd.2 d (wO hi)) (h4 i d hi))
   |_=>exact leaf _ v rfl h
def Uj  {e:PV}(h:kl N 3 e=true){j:Nat}{d:PV}(hd:e.cells[j]?=some d):kl N 3 d=true:=by
 have up:∀ (n:Nat) (d:PV),kl N n d=true->kl N (n+1) d=true:=by
  intro n
  induction n with
  |zero=>intro d h;cases d<;>first|exact h|(simp[kl]at h)|rfl
  | succ n ih =>
    intro d h;cases d with
    |agg cs=>simp only[kl,xZ]at h ⊢;exact fun x hx=>ih x (h x hx)
    |tup cs=>simp only[kl,xZ]at h ⊢;exact fun x hx=>ih x (h x hx)
    |func fn f c=>simp only[kl,xO,xZ]at h ⊢;exact⟨fun x hx=>ih x (h.1 x hx),fun x hx=>ih x (h.2 x hx)⟩
    |_=>exact h
 cases e with
 | agg cs =>
   simp only[kl,xZ]at h;exact up 2 d (h d (wO hd))
 |_=>cases j<;>simp[PV.cells]at hd<;>subst hd<;>exact h
section
variable {P:Program} {E:Env} {G:Gl} {w w':World} {A:Nat->Prop} {κ:Ka} {h:Hp} {z:Fz}
def uDL (H:HR E G w A κ h z) {key:Nat} (hn:E.n0<=key) (hk:κ key=none) (hzk:z key=false) (hhk:h key=none) {L:List (Nat×Blk)}  {args:List PV} {v0:PV} {nb:Option Blk} {f:FuncId} {vs:List Value}
 (hok:fD h z L N args) (hargs:RVs w A κ args vs) (hF:FnH P G f args (pkK L N v0 nb) ⟨fun _=>.any,lsH L,fun _=>false,N⟩) :
 Calls P f vs.toArray w fun e w'=>∃ v A' κ',e=.returned v/\HR E G w' A' κ' (Gb h key nb) z/\RV w' A' κ' (mZ N key v0) v/\(∀ r x,κ r=some x->κ' r=some x)/\(∀ r,r≠key->κ' r=κ r)/\(∀ b,A b->A' b) /\
  ∀ b o,A b->w'.cell? ⟨b,o,none⟩=w.cell? ⟨b,o,none⟩:=by
 obtain⟨hnd,hL,hkl⟩:=hok;let rs:List Nat:=L.map (·.1)
 have hmem:∀ r∈rs,∃ b,(r,b)∈L:=fun r hr=>by
  obtain⟨p,hp,rfl⟩:=zW.1 hr;exact⟨p.2,hp⟩
 have inRs:∀ {r b},(r,b)∈L->r∈rs:=fun hp=>zW.2 ⟨_,hp,rfl⟩
 let ex:Nat->Prop:=fun b'=>∃ r sz cap,r∈rs/\κ r=some (b',sz,cap)/\cap≠0
 have hex:∀ b',ex b'->¬ A b'/\¬ E.K b'/\E.B<=b':=by
  rintro b' ⟨r,sz,cap,hr,hκ,hc0⟩
  obtain⟨b,hp⟩:=hmem r hr;obtain⟨h1,h2,_⟩:=hL _ hp;obtain⟨m,cap',g1,_,_,g4⟩:=H.blk r _ h1 (by rw[hκ];simp);rw[hκ]at g1;cases g1;have ho:=H.kp.own r _ b' _ cap h1 hκ hc0 h2;rcases g4.resolve_left hc0 with⟨_,e1,e6,_⟩|⟨c,ty,⟨e1,_⟩,e2,e3,e4,e5,e6,e7⟩<;>exact⟨e6 h2,ho,e1⟩
 let κs:Ka:=fun r=>if r<N then κ r else none
 have hκs:∀ r,r<N->κs r=κ r:=fun r hr=>by simp only[κs,zE hr]
 have dn:∀ r x,r<N->κ r=some x->κs r=some x:=fun r x hr e=>by rw[hκs r hr];exact e
 let K':Nat->Prop:=fun b=>b<w.heap.size/\¬ ex b
 let Es:Env:={ w0:=E.w0,w1:=w,B:=E.B,A0:=A,n0:=N,κ0:=κs,K:=K',Z:=fun b=>K' b/\¬ A b,kw:=w }
 have h0:∀ r b,lsH L r=some b->(r,b)∈L/\h r=some b/\z r=false/\r<N/\∀ e∈b.els,kl N 3 e=true:=fun r b hb=>by
  have hp:=Js hb;exact⟨hp,hL _ hp⟩
 have Hs:HR Es G w A κs (lsH L) (fun _=>false):=by
  refine⟨H.bel,H.hB,H.alt,fun b hb=>hb,fun b hb=>zF hb,fun _ _ _=>rfl,fun r hr=>rfl,fun g e hg=>?_,fun r m sz cap hr=>?_,⟨fun r b m sz cap hr hκ hc hz'=>?_,Below.refl _ _,fun b hb=>⟨hb.1,rfl⟩,fun b hb=>hb⟩,fun r0 b hr hκ=>?_,fun r r' b b' m m' s s' c c' hne hr hr' hk hk' hc hc'=>?_⟩
  .exact RV.nr_any 3 _ _ rfl (H.gok g e hg)
  .by_cases hj:r<N
   .rw[hκs r hj]at hr;exact H.klt _ m sz cap hr
   .simp only[κs,zB hj]at hr;cases hr
  .obtain⟨hp,_,_,hj,_⟩:=h0 r b hr
   rw[hκs r hj]at hκ;exact fun hK=>hK.2 ⟨_,sz,cap,inRs hp,hκ,hc⟩
  .obtain⟨hp,h1,h2,hj,hkb⟩:=h0 r0 b hr
   rw[hκs r0 hj]at hκ;have:=H.blk _ _ h1 hκ;rw[h2]at this;exact this.to (fun e he j d hd v hv=>Ns dn 3 d v (Uj (hkb e he) hd) hv) (hκs r0 hj)
  .obtain⟨_,h1,_,hj,_⟩:=h0 r b hr
   obtain⟨_,h1',_,hj',_⟩:=h0 r' b' hr';rw[hκs r hj]at hk;rw[hκs r' hj']at hk';exact H.excl _ _ _ _ m m' s s' c c' hne h1 h1' hk hk' hc hc'
 have hfresh:jT N κs (lsH L) (fun _=>false):=fun r hr =>
  ⟨Ui fun p hp e=>by have:=(hL p hp).2.2.1;omega,rfl,by simp only[κs,zB (show ¬ r<N by omega)]⟩
 have hRV:RVs w A κs args vs:=⟨hargs.1,fun i d hd=>Ns dn 3 d _ (hkl d (wO hd)) (hargs.2 i d hd)⟩;refine(hF.2 Es w _ _ vs rfl rfl rfl rfl Hs hfresh hRV).mono fun e w' ⟨v,pv,A',κ',s',h1,h2,h3,_,h5,hpv,hv,hKL,hKn⟩=>?_
 subst hpv;have hb0:Below 0 w w':=h2.kp.kb;have hpres:∀ b,b<w.heap.size->¬ ex b->w'.heap[b]?=w.heap[b]?:=fun b hb hx=>(h2.kp.kk b ⟨hb,hx⟩).2
 have hA':∀ b,A b->A' b:=h2.a0
 have hnew:∀ b,A' b->A b\/w.heap.size<=b\/ex b:=fun b hb=>by
  rcases nD b w.heap.size with hlt|hge
  .by_cases hx:ex b
   .exact zC (zC hx)
   .by_cases hA:A b
    .exact zF hA
    .exact absurd hb (h2.kp.zk b ⟨⟨hlt,hx⟩,hA⟩).2
  .exact zC (zF hge)
 have hcell:∀ b o,A b->w'.cell? ⟨b,o,none⟩=w.cell? ⟨b,o,none⟩:=fun b o hA=>cell?_of_heap (hpres b (H.alt b hA) fun hx=>(hex b hx).1 hA) o
 let hd:Hp:=fun r=>if r∈rs then none else h r
 have hds':∀ r b,hd r=some b->r∉rs/\h r=some b:=fun r b hb=>by
  simp only[hd]at hb
  split at hb
  .cases hb
  .rename_i hn;exact⟨hn,hb⟩
 have Hd:HR E G w A κ hd z:=H.less fun r b hb=>(hds' r b hb).2
 have hexk:∀ r b m s c,hd r=some b->κ r=some (m,s,c)->c≠0->¬ ex m:=by
  rintro r b m s c hr hκ hc ⟨r',sz,cap,hr',hκ',hc'⟩
  obtain⟨g1,g2⟩:=hds' r b hr;obtain⟨b',hp⟩:=hmem r' hr';exact H.excl r r' _ _ m m s sz c cap (fun e=>g1 (by rw[e];exact hr')) g2 (hL _ hp).1 hκ hκ' hc hc' rfl
 have Hw:=Hd.stepW hb0 h2.bel (ex:=ex) hpres hex hexk hA' hnew h2.alt;have hk0:∀ r,r<N->κ' r=κ r:=fun r hr=>by rw[h2.k0 r hr];exact hκs r hr
 have upk:∀ r x,r<N->κ' r=some x->κ r=some x:=fun r x hr e=>by rw[<- hk0 r hr];exact e
 have Ha:HR E G w' A' κ h z:=by
  refine Hw.addL (rs:=rs) (fun r b hb=>?_) (fun r r' m m' s s' c c' hr hr' hne hk hk' hc hc'=>?_)
  .by_cases hr:r∈rs
   .refine zC ⟨hr,?_⟩
    obtain⟨b0,hp⟩:=hmem r hr;obtain⟨g1,g2,g3,g4⟩:=hL _ hp;rw[g1]at hb;cases hb;obtain⟨k1,k2⟩:=hKL _ hp;refine⟨g2,fun hκ=>?_,fun m sz cap hk hc=>?_⟩
    .have:=h2.blk r _ k1 (by rw[hk0 r g3];exact hκ)
     rw[k2]at this;exact this.to (fun e he j d hd v hv=>Ns upk 3 d v (Uj (g4 e he) hd) hv) (hk0 r g3).symm
    .have hx:ex m:=⟨_,sz,cap,hr,hk,hc⟩
     refine⟨(hex m hx).2.1,fun r' b' m' s c' hr' hκ' hc' e=>?_⟩;subst e;exact hexk r' b' m' s c' hr' hκ' hc' hx
   .exact zF ⟨hr,by show(if r∈rs then none else h r)=some b;rw[zB hr];exact hb⟩
  .obtain⟨b0,hp⟩:=hmem r hr
   obtain⟨b0',hp'⟩:=hmem r' hr';exact H.excl r r' _ _ m m' s s' c c' hne (hL _ hp).1 (hL _ hp').1 hk hk' hc hc'
 cases nb with
 | none =>
   refine⟨v,A',κ,h1,Ha,?_,fun _ _ h=>h,fun _ _=>rfl,hA',hcell⟩;rcases hv with hv|⟨r,off,len,rfl,hr|⟨_,hr⟩⟩
   .have:mZ N key pv=pv:=by cases pv<;>first|rfl|(simp[nr]at hv)
    rw[this];exact RV.nr_any 3 _ _ hv h5
   .obtain⟨b,hp⟩:=hmem r hr
    have hrN:=(hL _ hp).2.2.1;have:mZ N key (.own r off len)=.own r off len:=by simp only[mZ];rw[zB zom]
    rw[this];obtain⟨m,sz,cap,a,rfl,g1,hle,ha⟩:=h5.own_inv;exact .own r off len m sz cap a (upk r _ hrN g1) hle ha
   .exact absurd rfl hr
 | some b1 =>
   obtain⟨n1,n2,n3⟩:=hKn b1 rfl;let κf:Ka:=dR κ key (κ' N)
   have hf0:κf key=κ' N:=zE rfl;have hfn:∀ r,r≠key->κf r=κ r:=fun r e=>zB e
   have hup:∀ r x,κ r=some x->κf r=some x:=fun r x e=>by rw[hfn r fun e'=>by rw[e',hk]at e;cases e];exact e
   have Hf:HR E G w' A' κf h z:=Ha.kputs hn hk hhk (fun m sz cap e=>h2.klt N m sz cap e)
   have mem:∀ m sz cap,κ' N=some (m,sz,cap)->cap≠0->w.heap.size<=m:=fun m sz cap e hc=>by
    rcases nD m w.heap.size with hlt|hge
    .by_cases hx:ex m
     .obtain⟨r,s,c,hr,hκ,hc'⟩:=hx
      obtain⟨b,hp⟩:=hmem r hr;have hrN:=(hL _ hp).2.2.1;exact absurd rfl (h2.excl N r _ _ m m sz s cap c (by simp only at hrN;omega) n1 (hKL _ hp).1 e (by rw[hk0 r hrN];exact hκ) hc hc')
     .exact absurd ⟨hlt,hx⟩ (h2.kp.own N _ m sz cap n1 e hc n2)
    .exact hge
   have Hn:HR E G w' A' κf (hset h key (some b1)) z:=by
    refine Hf.addL (rs:=[key]) (fun r b hb=>?_) (fun r r' m m' s s' c c' hr hr' hne=>?_)
    .by_cases e:r=key
     .subst e
      have:b1=b:=by simpa [hset]using hb
      subst this;refine zC ⟨zsm,hzk,fun hκ=>?_,fun m sz cap e hc=>?_⟩
      .have:=(h2.blk N _ n1 (by rw[<- hf0];exact hκ)).key n3 hf0
       rw[n2]at this;exact this
      .rw[hf0]at e
       have hge:=mem m sz cap e hc;refine⟨fun hK=>?_,fun r' b' m' s c' hr' hκ' hc' e'=>?_⟩
       .have:=(H.kp.kk m hK).1;omega
       .subst e'
        have hne:r'≠r:=fun e'=>by rw[e',hhk]at hr';cases hr'
        rw[hfn r' hne]at hκ';rcases H.klt r' m' s c' hκ' with h0|h0
        .exact hc' h0
        .omega
     .exact zF ⟨by simpa using e,by simpa [hset,e]using hb⟩
    .simp only[yG]at hr hr'
     exact absurd (hr.trans hr'.symm) hne
   refine⟨v,A',κf,h1,Hn,?_,hup,hfn,hA',hcell⟩;rcases hv with hv|⟨r,off,len,rfl,hr|⟨hr,_⟩⟩
   .have:mZ N key pv=pv:=by cases pv<;>first|rfl|(simp[nr]at hv)
    rw[this];exact RV.nr_any 3 _ _ hv h5
   .obtain⟨b,hp⟩:=hmem r hr
    have hrN:=(hL _ hp).2.2.1;have:mZ N key (.own r off len)=.own r off len:=by simp only[mZ];rw[zB zom]
    rw[this];obtain⟨m,sz,cap,a,rfl,g1,hle,ha⟩:=h5.own_inv;exact .own r off len m sz cap a (hup r _ (upk r _ hrN g1)) hle ha
   .subst hr
    have:mZ r key (.own r off len)=.own key off len:=by simp only[mZ,uA]
    rw[this];obtain⟨m,sz,cap,a,rfl,g1,hle,ha⟩:=h5.own_inv;exact .own key off len m sz cap a (by rw[hf0];exact g1) hle ha
end
open Go.RowKit
variable {args:Array Value}{l:List PV}
def callsIn_wd{ro:Option Nat}{n:Nat}{P:Program}{f:FuncId}  {w:World}{R:Ending->World->Prop}:CallsIn (Wd ro) n P f args w R↔Calls P f args w R :=
 (Au:CallsIn (Wd ro) n P f args w R↔CallsIn Fence.wide n P f args w R).trans callsIn_wide
def FnH.mono{P:Program}{G:Gl}(f:FuncId)(args:List PV)(J J':PV->St->Prop)(s:St)(h:∀ v s,J v s->J' v s)(hf:FnH P G f args J s):FnH P G f args J' s :=
 ⟨hf.1,fun E w A κ vs h1 h2 h3 h4 h5 h6 h7=>(hf.2 E w A κ vs h1 h2 h3 h4 h5 h6 h7).mono fun _ _ ⟨v,pv,A',κ',s',g1,g2,g3,g4,g5,g6⟩=>⟨v,pv,A',κ',s',g1,g2,g3,g4,g5,h _ _ g6⟩⟩
def COk(P:Program)(G:Gl)(C:wK):Prop:=∀ f ds r,C f ds r->FnC P G f ds r
def opD(P:Program)(G:Gl)(C:wK)(key:Nat)(o:Oper)(s:St)(fp:FP)(v:PV)(h':Hp)(z':Fz):Prop :=
 match o.op with
 | .call { callee:=.value g,args,argTypes:=_ } =>
   ∃ f first captured,ev G s.t g=.func (.func f) first captured/\NZ C key s.h s.z f (first++args.toList.map (ev G s.t)++captured) fp v h'/\z'=yY s.z fp.fz
 |op=>zN P G s.z key op s.t s.h=some (v,h',fp.rd,fp.wr)/\z'=s.z/\fp.fz=[]
section
variable {P:Program} {E:Env} {G:Gl} {w:World} {A:Nat->Prop} {κ:Ka} {s:St} {a:Act} {o:Oper} {key:Nat} {v:PV} {h':Hp} {z':Fz} {fp:FP} {ro:Option Nat} {n:Nat}
def After(E:Env)(G:Gl)(w:World)(A:Nat->Prop)(κ:Ka)(key:Nat)(h':Hp)(z':Fz)(v:PV)(next:Value->World->Prop):Prop :=
 ∀ w' A' κ' v',HR E G w' A' κ' h' z'->RV w' A' κ' v v'->(∀ r x,κ r=some x->κ' r=some x)->(∀ r,r≠key->κ' r=κ r)->(∀ b,A b->A' b)->(∀ b o,A b->w'.cell? ⟨b,o,none⟩=w.cell? ⟨b,o,none⟩)->next v' w'
def Nt(o:Oper)(h:∀ c,o.op≠.defer c)(ρ:Operand->Value):o.semAt ro ρ=execOp ρ o:=Oper.semAt_eq ro ρ o h
def vEX(hd:∀ c,o.op≠.defer c)(hs:Sound E G w A κ z' h' key v ((execOp a.eval o).run P w)){next:Act->World->Prop}{Q:Exit->Act->World->Prop}
 (hn:After E G w A κ key h' z' v fun v' w'=>next (a.put o.dst v') w'):Oper.wpIn (Wd ro) n P o a w next Q:=by
 obtain⟨v',w',κ',hr,h1,h2,h3,h4,h5⟩:=hs;refine⟨fun _ _=>trivial,?_⟩;rw[Nt o hd];have:=hn w' A κ' v' h1 h2 h3 h4 (fun _ h=>h) h5;rcases hr with hr|⟨hr,rfl⟩
 .rw[hr];exact this
 .rw[hr];exact this
def Nu{l':List PV}{vs vs':List Value}(h1:RVs w A κ l vs)(h2:RVs w A κ l' vs'):RVs w A κ (l++l') (vs++vs'):=by
 refine⟨by simp[h1.1,h2.1],fun i d hd=>?_⟩;by_cases hi:i<l.length
 .rw[o9 hi]at hd
  have:=h1.2 i d hd;simp only[List.getD]at this ⊢;rw[o9 (by rw[<- h1.1];exact hi)];exact this
 .rw[kG zom]at hd
  have:=h2.2 _ d hd;simp only[List.getD]at this ⊢;rw[kG (by rw[<- h1.1];omega),<- h1.1];exact this
def Uk  {vs:Array Value}(hl:vs.size=l.length)(h:∀ i d,l[i]?=some d->RV w A κ d (vs.getD i undef)):RVs w A κ l vs.toList :=
 ⟨by simp[hl],fun i d hd=>by have:=h i d hd;simpa [List.getD,o8]using this⟩
def Ul{l:List Operand}{t:Tm}{ρ:Operand->Value}(h:∀ x∈l,RV w A κ (ev G t x) (ρ x)):RVs w A κ (l.map (ev G t)) (l.map ρ):=by
 refine⟨zsm,fun i d hd=>?_⟩;simp only[uF,pI]at hd;obtain⟨x,hx,rfl⟩:=hd;have:=h x (wO hx)
 simpa [List.getD,hx]using this
def uAA{f:FuncId}{g:Operand}{args:Array Operand}{ts:Array TypeId}{fs cs:Array Value}(hf:callable P f=true)(ho:o.op=.call { callee:=.value g,args,argTypes:=ts })(hg:a.eval g=.func (.func f) fs cs) :
 (execOp a.eval o).run P w=.ok (.enter f (fs++args.map a.eval++cs)) w:=by
 unfold callable at hf;cases hfn:P.funcs[f]? with
 |none=>simp[hfn]at hf
 | some fn =>
   simp only[hfn,xO,Ap,ne_eq]at hf;obtain⟨c,hc⟩:=JK.1 hf.1;simp[execOp,ho,resolve,hg,Deferred.ofValue,invoke,callFunc,hfn,hf.2,hc]
def upon_enter{f:FuncId}  {next:Act->World->Prop}{Q:Exit->Act->World->Prop}{R:Value->World->Prop}(h:Calls P f args w fun e w'=>∃ v,e=.returned v/\R v w')(hn:∀ v w',R v w'->next (a.put o.dst v) w') :
 o.uponIn (Wd ro) n P a next Q (.ok (.enter f args) w):=by
 refine⟨fun hh=>(by cases hh),callsIn_wd.2 (h.mono fun e w' hh=>?_)⟩;obtain⟨v,rfl,hr⟩:=hh;exact hn v w' hr
def Gj(H:HR E G w A κ s.h s.z){m:Nat}{ds:List PV}{ks:List Nat}{vs:List Value}(hm:zZ (frz s.h m) l=some (ds,ks))(hv:RVs w A κ l vs):RDs w (fun b=>A b\/tY κ ks b) ds vs:=by
 obtain⟨g1,g2⟩:=kP hm;refine⟨g1.trans hv.1,fun i d hd=>?_⟩;obtain⟨x,ks',e1,e2,e3⟩:=g2 i d hd;exact ER H (fun b hb=>zF hb) m x d _ ks' e2 (hv.2 i x e1) (fun b ⟨r,hr,q⟩=>zC ⟨r,e3 r hr,q⟩)
def uLS{X Y:Nat->Prop}{lo hi m:Nat}(b:Nat)(hb:(X b\/Y b)\/(lo<=b/\b<hi/\b≠m)):(X b\/Y b)\/(lo<=b/\b<hi/\b≠m):=hb
def Nv(P:Program)(G:Gl)(o:Oper)(t:Tm)(f:FuncId)(l:List PV):Prop :=
 (∃ g args ts first captured,o.op=.call { callee:=.value g,args,argTypes:=ts }/\ev G t g=.func (.func f) first captured/\l=first++args.toList.map (ev G t)++captured) \/
 (∃ g m args ts u v r,o.op=.call { callee:=.invoke g m,args,argTypes:=ts }/\ev G t g=.raw (.iface u v)/\(∀ w,(Go.method (P.types.size+Made.depth) u v m).run P w=.ok (f,r) w)/\Az (Ck r)=some r/\l=Ck r::args.toList.map (ev G t))
def Um{f:FuncId}  (hf:callable P f=true)(hx:OkOp G w A κ s.t a.eval o.op)(hE:Nv P G o s.t f l) :
 (∀ c,o.op≠.defer c)/\∃ vs:Array Value,(execOp a.eval o).run P w=.ok (.enter f vs) w/\RVs w A κ l vs.toList:=by
 rcases hE with⟨g,args,ts,first,captured,ho,hev,rfl⟩|⟨g,m,args,ts,u,v,r,ho,hev,hm,hr,rfl⟩
 .have hg:RV w A κ (.func (.func f) first captured) (a.eval g):=by rw[<- hev];exact hx g (by rw[ho];simp[Op.operands,Call.operands])
  obtain⟨fs,cs,hρ,hl1,hl2,hf1,hf2⟩:=hg.func_inv;refine⟨by rw[ho];simp,_,uAA hf ho hρ,?_⟩;simp only[GI,Array.toList_map];exact Nu (Nu (Uk hl1 hf1) (Ul fun x hxm=>hx x (by rw[ho];simp[Op.operands,Call.operands];exact zC (by simpa using hxm)))) (Uk hl2 hf2)
 .have hg:RV w A κ (.raw (.iface u v)) (a.eval g):=by rw[<- hev];exact hx g (by rw[ho];simp[Op.operands,Call.operands])
  have hρ:=hg.raw_inv;refine⟨by rw[ho];simp,#[r]++args.map a.eval,?_,?_⟩
  .unfold callable at hf
   cases hfn:P.funcs[f]? with
   |none=>simp[hfn]at hf
   | some fn =>
     simp only[hfn,xO,Ap,ne_eq]at hf;obtain⟨c,hc⟩:=JK.1 hf.1;have e0:(#[Value.iface u v]++args.map a.eval)[0]?=some (.iface u v):=by simp[Array.getElem?_append]
     have e1:(#[Value.iface u v]++args.map a.eval).extract 1 (#[Value.iface u v]++args.map a.eval).size=args.map a.eval:=by
      apply Array.ext
      .simp
      .intro i h1 h2;simp[Array.getElem_extract,Array.getElem_append]
     simp only[execOp,ho,resolve,Sem.run_bind,Sem.run_pure,Result.andThen_ok,invoke,hρ,e0,e1,callMethod];simp[hm,callFunc,hfn,hf.2,hc]
  .simp only[GI,Array.toList_map]
   refine Nu (l:=[Ck r]) ⟨rfl,fun i d hd=>?_⟩ (Ul fun x hxm=>hx x (by rw[ho];simp[Op.operands,Call.operands];exact zC (by simpa using hxm)));cases i with
   |zero=>simp at hd;subst hd;exact uOO hr
   |succ i=>simp at hd
def vWB{C:wK}(hC:COk P G C)(H:HR E G w A κ s.h s.z)(hn:E.n0<=key)(hk:κ key=none)(hz:s.z key=false)(hhk:s.h key=none)(hx:OkOp G w A κ s.t a.eval o.op)
 (hd:opD P G C key o s fp v h' z') {next:Act->World->Prop} {Q:Exit->Act->World->Prop} (hnext:After E G w A κ key h' z' v fun v' w'=>next (a.put o.dst v') w') :
 Oper.wpIn (Wd ro) n P o a w next Q:=by
 unfold opD at hd
 split at hd
 .rename_i g args ts ho
  obtain⟨f,first,captured,hev,hd,rfl⟩:=hd
  have go:∀ {ds:List PV} {r:CRes},C f ds r->(∀ vs:List Value,RVs w A κ (first++args.toList.map (ev G s.t)++captured) vs->FnC P G f ds r ->
   Calls P f vs.toArray w fun e w'=>∃ u,e=.returned u/\next (a.put o.dst u) w')->Oper.wpIn (Wd ro) n P o a w next Q:=fun {ds r} hCf hcall=>by
   have hC1:=hC f ds r hCf;obtain⟨hdf,vs,hrun,hargs⟩:=Um (by cases r<;>exact hC1.1) hx (zF ⟨g,args,ts,first,captured,ho,hev,rfl⟩);refine⟨fun _ _=>trivial,?_⟩;rw[Nt o hdf,hrun];have:=hcall vs.toList hargs hC1;rw[Array.toArray_toList]at this;exact upon_enter (R:=fun u w'=>next (a.put o.dst u) w') this fun _ _ h=>h
  rcases hd with⟨m,ds,r,hfr,hCf,hok,rfl,rfl,hrd,hwr⟩|⟨m,ds,q,res,b1,hcv,hCf,hq,rfl,rfl,hrd,hwr⟩|⟨m,ds,q,b0,b1,hcv,hCf,hq,rfl,hrd,hwr⟩|⟨L,N,v0,nb,hCf,hok,rfl,rfl,hfz,hrd,hwr⟩
  rotate_left 3
  .have ez:yY s.z fp.fz=s.z:=by rw[hfz];funext r;simp[yY]
   rw[ez]at hnext;exact go hCf fun vs hargs hC1=>(uDL H hn hk hz hhk hok hargs hC1.2).mono fun e w' ⟨u,A',κ',h1,h2,h3,h4,h5,h6,h7⟩=>⟨u,h1,hnext w' A' κ' u h2 h3 h4 h5 h6 h7⟩
  rotate_left 2
  .exact go hCf fun vs hargs hC1=>(vYC H hq.1 hq.2.1 hq.2.2.1 hq.2.2.2 hcv hargs hC1.2).mono fun e w' ⟨u,A',h1,h2,h3,h4,h5⟩=>⟨u,h1,hnext w' A' κ u h2 h3 (fun _ _ h=>h) (fun _ _=>rfl) h4 h5⟩
  rotate_left
  .exact go hCf fun vs hargs hC1=>(vV7 H hn hk hz hhk hq hcv hargs hC1.2).mono fun e w' ⟨u,A',κ',h1,h2,h3,h4,h5,h6,h7⟩=>⟨u,h1,hnext w' A' κ' u h2 h3 h4 h5 h6 h7⟩
  have hHf:=H.freeze (dQ hfr);refine go hCf fun vs hargs hC1=>?_
  have hRD:=Gj H hfr hargs;have hC2:=hC1.2
  have hcall:Calls P f vs.toArray w fun e w'=>∃ v,e=.returned v/\Below w.heap.size w w'/\r.holds w w' (fun b=>A b\/tY κ fp.fz b) v:=by
   cases r with
   |data d=>exact hC2 w _ _ hHf.alt hHf.gok hRD
   |fresh els sz agg=>exact hC2 w _ _ hHf.alt hHf.gok hRD
   |_=>exact hok.elim
  refine hcall.mono fun e w' ⟨v',h1,hb,hh⟩=>⟨v',h1,?_⟩
  cases r with
  | data d =>
    have HA:=hHf.after hb (X:=fun b=>w.heap.size<=b/\b<w'.heap.size) (fun b h=>h);exact hnext w' _ κ v' HA (.data _ _ hh) (fun _ _ h=>h) (fun _ _=>rfl) (fun b hA=>zF (zF hA)) (fun b o' hA=>cell?_of_heap (hb.block b (H.alt b hA)) o')
  | fresh els sz agg =>
    obtain⟨hd1,ad,cap,rfl,hle,hu,hh⟩:=hh
    have hcap0:∀ {w'':World} {A'':Nat->Prop} {κ'':Ka},κ'' key=some (0,sz,0)->cap=0->RV w'' A'' κ'' (.own key 0 els.length) (.slice ad els.length cap):=by
     intro w'' A'' κ'' hk'' hc0;subst hc0;have:els.length=0:=zom
     rw[this];exact EQ hk'' ad
    by_cases hc0:cap=0
    .have HA:=hHf.after hb (X:=fun b=>w.heap.size<=b/\b<w'.heap.size) (fun b h=>h)
     have he:els=[]:=vZ.1 zom;have HE:=HA.empty (sz:=sz) (agg:=agg) hn hk;subst he;exact hnext w' _ (wL κ key (0,sz,0)) _ HE (hcap0 (vG ..) hc0) (qW _ hk) (fun r hr=>wH κ _ hr) (fun b hA=>zF (zF hA)) (fun b o' hA=>cell?_of_heap (hb.block b (H.alt b hA)) o')
    .obtain⟨m',c,ty,rfl,hm1,hm2,hm3,hm4,hm5⟩:=hh.resolve_left hc0
     have HA:=hHf.after hb (X:=fun b=>w.heap.size<=b/\b<w'.heap.size/\b≠m') (fun b h=>⟨h.1,h.2.1⟩)
     have hzk:yY s.z fp.fz key=false:=by
      simp only[yY,JS];refine⟨?_,hz⟩;simp only[NC,CQ];intro hm;obtain⟨bk,hbk⟩:=dQ hfr key hm;rw[hhk]at hbk;cases hbk
     have HD:=HA.adopt (key:=key) (sz:=sz) (cap:=cap) (agg:=agg) (els:=els) hn hk hzk hm2 ⟨wS H.hB hm1,fun e=>absurd e hd1⟩ (fun hK=>by have:=(H.kp.kk m' hK).1;omega) (by
      rintro((h|h)|h)
      .have:=H.alt m' h;omega
      .have:=hHf.alt m' (zC h);omega
      .exact h.2.2 rfl) (fun r b m2 s2 c2 hr hkr hc2 e=>by
      subst e;rcases H.klt r m2 s2 c2 hkr with h|h
      .exact hc2 h
      .omega) hm3 hle hu hm4 (fun i e he=>(hm5 i e he).mono uLS (fun _ _ _=>rfl) (fun r x hr=>by cases hr))
     refine hnext w' _ (wL κ key (m',sz,cap)) _ HD ?_ (qW _ hk) (fun r hr=>wH κ _ hr) (fun b hA=>zF (zF hA)) (fun b o' hA=>cell?_of_heap (hb.block b (H.alt b hA)) o');have:=RV.own (w:=w') (A:=fun b=>(A b\/tY κ fp.fz b)\/(w.heap.size<=b/\b<w'.heap.size/\b≠m')) (κ:=wL κ key (m',sz,cap)) key 0 els.length m' sz cap (some ⟨m',0,none⟩) (vG ..) zom (zF zsm);simp only[Ao,Nat.sub_zero]at this;exact this
  |_=>exact hh.elim
 .rename_i op hne
  obtain⟨he,rfl,_⟩:=hd;refine vEX (z':=s.z) ?_ (vJZ H hn hk hz hhk hx he) hnext;intro c hc;rw[hc]at he;simp[zN]at he
def vJK{f:FuncId}  {K:PV->St->Prop}(H:HR E G w A κ s.h s.z)(hn:E.n0<=s.nx)(hfr:jT s.nx κ s.h s.z)(hx:OkOp G w A κ s.t a.eval o.op)
 (hE:Nv P G o s.t f l) (hI:FnH P G f l K s)
 {next:Act->World->Prop} {Q:Exit->Act->World->Prop}
 (hnext:∀ w' A' κ' s' v' pv,K pv s'->HR E G w' A' κ' s'.h s'.z->jT s'.nx κ' s'.h s'.z->s.nx<=s'.nx->RV w' A' κ' pv v'->(∀ r x,κ r=some x->κ' r=some x)->(∀ b,A b->A' b)->(∀ b o,A b->w'.cell? ⟨b,o,none⟩=w.cell? ⟨b,o,none⟩)->next (a.put o.dst v') w') :
 Oper.wpIn (Wd ro) n P o a w next Q:=by
 obtain⟨hdf,vs,hrun,hargs⟩:=Um hI.1 hx hE
 have H':HR { E with n0:=s.nx,κ0:=κ,A0:=A,w1:=w } G w A κ s.h s.z :=
  ⟨H.bel,H.hB,H.alt,fun _ h=>h,fun _ h=>zF h,fun _ _ _=>rfl,fun _ _=>rfl,H.glob,H.klt,⟨H.kp.own,H.kp.kb,H.kp.kk,H.kp.zk⟩,H.blk,H.excl⟩
 have hcall:=hI.2 _ w A κ _ rfl rfl rfl rfl H' hfr hargs;rw[Array.toArray_toList]at hcall;refine⟨fun _ _=>trivial,?_⟩;rw[Nt o hdf,hrun]
 refine upon_enter (R:=fun v w'=>∃ pv A' κ' s',HR { E with n0:=s.nx,κ0:=κ,A0:=A,w1:=w } G w' A' κ' s'.h s'.z/\jT s'.nx κ' s'.h s'.z/\s.nx<=s'.nx/\RV w' A' κ' pv v/\K pv s')
  (hcall.mono fun e w' ⟨v,pv,A',κ',s',h1,h2⟩=>⟨v,h1,pv,A',κ',s',h2⟩) fun v' w' ⟨pv,A',κ',s',h1,h2,h3,h4,h5⟩=>?_
 have hk:∀ r x,κ r=some x->κ' r=some x:=fun r x hr=>by
  by_cases hlt:r<s.nx
  .rw[h1.k0 r hlt];exact hr
  .rw[(hfr r zom).2.2]at hr;cases hr
 have HE:HR E G w' A' κ' s'.h s'.z:=by
  refine⟨h1.bel,h1.hB,h1.alt,fun b hb=>h1.a0 b (H.a0 b hb),fun b hb=>?_,fun b o' hb=>(h1.acell b o' (H.a0 b hb)).trans (H.acell b o' hb),fun r hr=>(h1.k0 r (w9 hr hn)).trans (H.k0 r hr),h1.glob,h1.klt,⟨h1.kp.own,h1.kp.kb,h1.kp.kk,h1.kp.zk⟩,h1.blk,h1.excl⟩;rcases h1.a1 b hb with h|h
  .exact H.a1 b h
  .exact zC h
 exact hnext w' A' κ' s' v' pv h5 HE h2 h3 h4 hk (fun b hb=>h1.a0 b hb) (fun b o' hb=>h1.acell b o' hb)
end
open Go.RowKit
variable {z:Fz}{op:Op}{h:Hp}{v:PV}{rd:List Nat}
def wants(ops:List Oper)(o:Oper)(t:Tm):Option Bool :=
 match o.guard with
 |none=>some true
 | some (j,want)=>match (ops[j]?).bind (·.dst) with
   | some d=>(match t d with
     |.bool b=>some (b == want)
     |.tup []=>some false
     |_=>none)
   |none=>none
def aD (P:Program) (G:Gl) (C:wK) (ops:List Oper) (base:Nat) (fps:Nat->FP) (i:Nat) (s s':St):Prop :=
 ∃ o,ops[i]?=some o /\
   ((wants ops o s.t=some true/\∃ v h' z',opD P G C (base+i) o s (fps i) v h' z'/\s'=put { s with h:=h',z:=z' } o.dst v) \/
    (wants ops o s.t=some false/\s'=put s o.dst (.tup [])))
section
variable {P:Program} {G:Gl} {C:wK}
def contains_false{l:List Nat}{k:Nat}:l.contains k=false↔k∉l:=by simp[NC]
def over(wr:List Nat)(h' h:Hp):Hp:=fun r=>if wr.contains r then h' r else h r
def uGC{t t2:Tm}{x:Operand}(h:∀ i,x=.tmp i->t2 i=t i):ev G t2 x=ev G t x:=by
 cases x with
 |tmp i=>exact h i rfl
 |const v=>rfl
 |global g=>rfl
 |func f=>rfl
def uDS(h' h:Hp):over [] h' h=h:=rfl
def Co(h h2:Hp)(k:Nat)(b:Option Blk):over [k] (hset h k b) h2=hset h2 k b:=by
 funext r
 simp only[over,hset,JW,List.contains_nil,nW,Aq]
 split<;>simp_all
def Un(h h2:Hp)(r k:Nat)(b:Option Blk):over [r,k] (hset (hset h r none) k b) h2=hset (hset h2 r none) k b:=by
 funext q
 simp only[over,hset,JW,List.contains_nil,nW,kN,Aq];by_cases h1:q=k
 .simp[h1]
 .by_cases h2:q=r<;>simp[h1,h2]
def uN{c:Prop}[Decidable c]{x:Res}(h:c):need c x=x:=by simp[need,h]
structure Loc(P:Program)(G:Gl)(z:Fz)(key:Nat)(op:Op)(t:Tm)(h:Hp)(v:PV)(h':Hp)(rd wr:List Nat):Prop where
 out:∀ r,r∉wr->h' r=h r
 fresh:∀ r,r≠key->h r=none->h' r=none
 loc:∀ (t2:Tm) (h2:Hp) (z2:Fz),(∀ x∈op.operands.toList,ev G t2 x=ev G t x)->(∀ r∈rd,h2 r=h r)->(∀ r∈wr,z2 r=z r)->zN P G z2 key op t2 h2=some (v,over wr h' h2,rd,wr)
def Loc.same  {key:Nat}  {t:Tm}   
 (hl:∀ (t2:Tm) (h2:Hp) (z2:Fz),(∀ x∈op.operands.toList,ev G t2 x=ev G t x)->(∀ r∈rd,h2 r=h r)->zN P G z2 key op t2 h2=some (v,h2,rd,[])):Loc P G z key op t h v h rd [] :=
 ⟨fun _ _=>rfl,fun _ _ h=>h,fun t2 h2 z2 h1 h3 _=>by rw[uDS];exact hl t2 h2 z2 h1 h3⟩
def Loc.new  {key:Nat}  {t:Tm}    {b:Option Blk}
 (hl:∀ (t2:Tm) (h2:Hp) (z2:Fz),(∀ x∈op.operands.toList,ev G t2 x=ev G t x)->(∀ r∈rd,h2 r=h r)->zN P G z2 key op t2 h2=some (v,hset h2 key b,rd,[key])):Loc P G z key op t h v (hset h key b) rd [key] :=
 ⟨fun r hr => by have:r≠key:=by simpa using hr
                 simp[hset,this],fun r hr hn=>by simp[hset,hr,hn],fun t2 h2 z2 h1 h3 _=>by rw[Co];exact hl t2 h2 z2 h1 h3⟩
def Uo{h2:Hp}  {es:List PV}{ks:List Nat}(hs:Ay h v=some (es,ks))(hk:∀ r∈ks,h2 r=h r):Ay h2 v=some (es,ks):=by
 unfold Ay at hs ⊢
 split at hs
 .exact hs
 .exact hs
 .rename_i r off len
  split at hs
  .rename_i b hb
   split at hs
   .rename_i hle
    cases hs
    have:=hk r zsm;simp only[this,hb,zE hle]
   .cases hs
  .cases hs
 .cases hs
def Jt(P:Program)(ty:TypeId)(x:PV)(l1 l2:Bool)(A B:Option Int)(h:Hp):Res :=
 let size:=(zK P (zK P ty).elem).size
 match x with
 | .imm es=>(match (if l1 then A else some 0),(if l2 then B else some (es.length:Int)) with
   |some a,some b=>need ((zK P ty).isSlice=true/\(∀ e∈es,e.cells.length=size)/\0<=a/\a<=b/\b<=es.length/\size≠0) (some (.imm ((es.take b.toNat).drop a.toNat),h,[],[]))
   |_,_=>none)
 | .own r off len=>(match (if l1 then A else some 0),(if l2 then B else some (len:Int)) with
   | some a,some b=>(match h r with
     |some k=>need ((zK P ty).isSlice=true/\k.sz=size/\0<=a/\a<=b/\b<=len/\size≠0) (some (.own r (off+a.toNat) (b.toNat-a.toNat),h,[r],[]))
     |none=>none)
   |_,_=>none)
 |_=>none
def vJ0  {key:Nat}  {t:Tm} {h':Hp}  {wr:List Nat} (he:zN P G z key op t h=some (v,h',rd,wr)):Loc P G z key op t h v h' rd wr:=by
 cases op
 case move x=>unfold zN at he;cases he;exact .same fun t2 h2 z2 h1 _=>by simp only[zN,h1 x yQ]
 case assign x=>unfold zN at he;cases he;exact .same fun t2 h2 z2 h1 _=>by simp only[zN,h1 x yQ]
 case pick c a b =>
  unfold zN at he;dsimp only at he
  split at he
  .rename_i q hq
   cases he
   exact .same fun t2 h2 z2 h1 _=>by simp only[zN,h1 c yQ,h1 a yQ,h1 b yQ,hq]
  .cases he
 case alloc e =>
  unfold zN at he;dsimp only at he;obtain⟨hz,he⟩:=xC he;cases he
  exact .new fun t2 h2 z2 h1 _=>by simp only[zN,uN hz]
 case box e x =>
  unfold zN at he;dsimp only at he
  split at he
  .rename_i hz
   cases he
   exact .new fun t2 h2 z2 h1 _=>by simp only[zN,h1 x yQ,zE hz]
  .rename_i hz
   split at he
   .rename_i hx
    obtain⟨hn,he⟩:=xC he;cases he
    rw[hx]at hz;exact .new fun t2 h2 z2 h1 _=>by simp only[zN,h1 x yQ,hx,zB hz,uN hn]
   .cases he
 case build ty parts =>
  have hp:∀ t2:Tm,(∀ x∈(Op.build ty parts).operands.toList,ev G t2 x=ev G t x)->(parts.toList.map fun(j,x)=>(j,ev G t2 x))=parts.toList.map fun(j,x)=>(j,ev G t x):=fun t2 h1=>by
   refine rL fun q hq=>?_
   simp only[h1 q.2 (by simp only[Op.operands,zW];exact⟨q,hq,rfl⟩)]
  unfold zN at he;dsimp only at he
  split at he
  .rename_i hel
   obtain⟨hz,he⟩:=xC he
   split at he
   .rename_i cs hf
    cases he
    exact .same fun t2 h2 z2 h1 _=>by simp only[zN,hel,uN hz,hp t2 h1,hf]
   .cases he
  .rename_i hel
   obtain⟨hz,he⟩:=xC he
   split at he
   .rename_i cs hf
    cases he
    exact .same fun t2 h2 z2 h1 _=>by
     simp only[zN,hel,uN hz,hp t2 h1,hf]
   .cases he
 case buildSlice ty len parts =>
  have hp:∀ t2:Tm,(∀ x∈(Op.buildSlice ty len parts).operands.toList,ev G t2 x=ev G t x)->(parts.toList.map fun(j,x)=>(j,ev G t2 x))=parts.toList.map fun(j,x)=>(j,ev G t x):=fun t2 h1=>by
   refine rL fun q hq=>?_
   simp only[h1 q.2 (by simp only[Op.operands,zW];exact⟨q,hq,rfl⟩)]
  unfold zN at he;dsimp only at he;obtain⟨hz,he⟩:=xC he
  split at he
  .rename_i cs hf
   cases he
   exact .new fun t2 h2 z2 h1 _=>by simp only[zN,uN hz,hp t2 h1,hf]
  .cases he
 case load ty x =>
  unfold zN at he;dsimp only at he
  split at he
  .rename_i r j off hx
   split at he
   .rename_i b hb
    split at he
    .rename_i e hj
     obtain⟨u,hu,hv⟩:=map_some he;cases hv
     exact .same fun t2 h2 z2 h1 h3=>by simp only[zN,h1 x yQ,hx,h3 r zsm,hb,hj,hu,Option.map_some]
    .cases he
   .cases he
  .rename_i e off hx
   obtain⟨u,hu,hv⟩:=map_some he;cases hv
   exact .same fun t2 h2 z2 h1 h3=>by simp only[zN,h1 x yQ,hx,hu,Option.map_some]
  .cases he
 case store ty x y =>
  unfold zN at he;dsimp only at he
  split at he
  .rename_i r j off hx
   split at he
   .rename_i b hb
    split at he
    .rename_i e hj
     obtain⟨hn,he⟩:=xC he;obtain⟨u,hu,hv⟩:=map_some he;cases hv
     refine⟨fun q hq=>?_,fun q hq hn=>?_,fun t2 h2 z2 h1 h3 h4=>?_⟩
     .have:q≠r:=by simpa using hq
      simp[hset,this]
     .have:q≠r:=fun e=>by rw[e,hb]at hn;cases hn
      simp[hset,this,hn]
     .rw[Co]
      have hz:=h4 r zsm;simp only[zN,h1 x yQ,h1 y yQ,hx,h3 r zsm,hb,hj,hu,Option.map_some];exact uN ⟨by rw[hz];exact hn.1,hn.2⟩
    .cases he
   .cases he
  .cases he
 case nilCheck x =>
  unfold zN at he;dsimp only at he
  split at he
  .rename_i r i off hx
   cases he
   exact .same fun t2 h2 z2 h1 _=>by simp only[zN,h1 x yQ,hx]
  .rename_i e off hx
   cases he
   exact .same fun t2 h2 z2 h1 _=>by simp only[zN,h1 x yQ,hx]
  .cases he
 case binOp op xt x y yt =>
  have e:∀ (t2:Tm) (h2:Hp) (z2:Fz),(∀ q∈(Op.binOp op xt x y yt).operands.toList,ev G t2 q=ev G t q)->zN P G z2 key (.binOp op xt x y yt) t2 h2=(zN P G z key (.binOp op xt x y yt) t h).map fun q=>(q.1,h2,q.2.2):=by
   intro t2 h2 z2 h1;simp only[zN,h1 x yQ,h1 y yQ,need];generalize ev G t x=a;generalize ev G t y=b;cases b<;>cases a<;>(try dsimp only)<;>(repeat' split)<;>first|rfl|(simp[Option.map_map,Function.comp_def];done)
  have hh:h'=h/\rd=[]/\wr=[]:=by
   have:=e t (fun _=>none) z (fun _ _=>rfl);have:=e t h z (fun _ _=>rfl);unfold zN at he;dsimp only at he
   repeat' (split at he)
   all_goals first
    |(cases he;done)
    |(cases he;exact⟨rfl,rfl,rfl⟩)
    |(obtain⟨_,he⟩:=xC he;cases he;exact⟨rfl,rfl,rfl⟩)
    |(obtain⟨_,he⟩:=xC he;obtain⟨x,hx,hv⟩:=map_some he;cases hv;exact⟨rfl,rfl,rfl⟩)
    |(obtain⟨x,hx,hv⟩:=map_some he;cases hv;exact⟨rfl,rfl,rfl⟩)
  obtain⟨rfl,rfl,rfl⟩:=hh;exact .same fun t2 h2 z2 h1 _=>by rw[e t2 h2 z2 h1,he];rfl
 case unOp op xt x =>
  unfold zN at he;dsimp only at he
  split at he
  .rename_i b hx
   cases he
   exact .same fun t2 h2 z2 h1 _=>by simp only[zN,h1 x yQ,hx]
  .rename_i k n hx
   cases he
   exact .same fun t2 h2 z2 h1 _=>by simp only[zN,h1 x yQ,hx]
  .cases he
 case convert a b x =>
  unfold zN at he;dsimp only at he
  split at he
  .rename_i k0 k k1 n hs hd hx
   cases he
   exact .same fun t2 h2 z2 h1 _=>by simp only[zN,h1 x yQ,hx,hs,hd]
  .cases he
 case makeFunc fn first captured =>
  unfold zN at he;cases he
  refine .same fun t2 h2 z2 h1 _=>?_
  have e1:first.toList.map (ev G t2)=first.toList.map (ev G t):=rL fun q hq=>h1 q (by simp[Op.operands];exact zF (by simpa using hq))
  have e2:captured.toList.map (ev G t2)=captured.toList.map (ev G t):=rL fun q hq=>h1 q (by simp[Op.operands];exact zC (by simpa using hq))
  simp only[zN,e1,e2]
 case makeMap ty r =>
  cases r with
  |some _=>simp[zN]at he
  |none=>unfold zN at he;cases he;exact .new fun t2 h2 z2 h1 _=>by simp only[zN]
 case lookup ty x y c =>
  cases c with
  |true=>simp[zN]at he
  | false =>
    unfold zN at he;dsimp only at he
    split at he
    .rename_i r s e1 e2
     split at he
     .rename_i b hb
      obtain⟨hn,he⟩:=xC he;cases he
      exact .same fun t2 h2 z2 h1 h3=>by simp only[zN,h1 x yQ,h1 y yQ,e1,e2,h3 r zsm,hb,uN hn]
     .cases he
    .cases he
 case mapUpdate ty x y u =>
  unfold zN at he;dsimp only at he
  split at he
  .rename_i r s b0 e1 e2 e3
   split at he
   .rename_i b hb
    obtain⟨⟨g1,g2,g3,g4⟩,he⟩:=xC he;cases he
    refine⟨fun q hq=>?_,fun q hq hn=>?_,fun t2 h2 z2 h1 h3 h4=>?_⟩
    .have:q≠r:=by simpa using hq
     simp[hset,this]
    .have:q≠r:=fun e=>by rw[e,hb]at hn;cases hn
     simp[hset,this,hn]
    .rw[Co]
     simp only[zN,h1 x yQ,h1 y yQ,h1 u yQ,e1,e2,e3,h3 r zsm,hb];exact uN ⟨g1,g2,g3,by rw[h4 r zsm];exact g4⟩
   .cases he
  .cases he
 case makeInterface ty x =>
  unfold zN at he;dsimp only at he;obtain⟨hn,he⟩:=xC he;obtain⟨u,hu,hv⟩:=map_some he;cases hv
  exact .same fun t2 h2 z2 h1 _=>by simp only[zN,h1 x yQ,hu,uN hn];rfl
 case makeSlice ty l c =>
  unfold zN at he;dsimp only at he
  split at he
  .rename_i n m hl hc
   obtain⟨hn,he⟩:=xC he;cases he
   exact .new fun t2 h2 z2 h1 _=>by simp only[zN,h1 l yQ,h1 c yQ,hl,hc,uN hn]
  .cases he
 case slice ty x lo hi mx =>
  cases mx with
  |some m=>simp[zN]at he
  | none =>
    have fin:∀ (A B:Option Int),(∀ t2:Tm,(∀ q∈(Op.slice ty x lo hi none).operands.toList,ev G t2 q=ev G t q)->∀ (h2:Hp) (z2:Fz),zN P G z2 key (.slice ty x lo hi none) t2 h2=Jt P ty (ev G t x) (lo.isSome) (hi.isSome) A B h2) ->
     Loc P G z key (.slice ty x lo hi none) t h v h' rd wr:=by
     intro A B heq;rw[heq t (fun _ _=>rfl) h z]at he;unfold Jt at he
     split at he
     .rename_i es hx
      split at he
      .rename_i a b ha hb
       obtain⟨hn,he⟩:=xC he;cases he
       refine .same fun t2 h2 z2 h1 _=>?_
       rw[heq t2 h1 h2 z2];simp only[Jt,hx,ha,hb,uN hn]
      .cases he
     .rename_i r off len hx
      split at he
      .rename_i a b ha hb
       split at he
       .rename_i k hk
        obtain⟨hn,he⟩:=xC he;cases he
        refine .same fun t2 h2 z2 h1 h3=>?_
        rw[heq t2 h1 h2 z2];simp only[Jt,hx,ha,hb,h3 r zsm,hk,uN hn]
       .cases he
      .cases he
     .cases he
    rcases lo with _|lo<;>rcases hi with _|hi
    .exact fin none none fun t2 h1 h2 z2=>by
      simp only[zN,h1 x yQ];generalize ev G t x=vx;cases vx<;>rfl
    .exact fin none (match ev G t hi with|.int _ n=>some n|_=>none) fun t2 h1 h2 z2=>by
      simp only[zN,h1 x yQ,h1 hi yQ];generalize ev G t x=vx;cases vx<;>rfl
    .exact fin (match ev G t lo with|.int _ n=>some n|_=>none) none fun t2 h1 h2 z2=>by
      simp only[zN,h1 x yQ,h1 lo yQ];generalize ev G t x=vx;cases vx<;>rfl
    .exact fin (match ev G t lo with|.int _ n=>some n|_=>none) (match ev G t hi with|.int _ n=>some n|_=>none) fun t2 h1 h2 z2=>by
      simp only[zN,h1 x yQ,h1 lo yQ,h1 hi yQ];generalize ev G t x=vx;cases vx<;>rfl
 case fieldAddr s x f =>
  unfold zN at he;dsimp only at he
  split at he
  .rename_i o ty n r j off hf hx
   split at he
   .rename_i hn
    cases he
    exact .same fun t2 h2 z2 h1 _=>by simp only[zN,h1 x yQ,hx,hf,zE hn]
   .rename_i hn
    split at he
    .rename_i b hb
     obtain⟨hc,he⟩:=xC he;cases he
     exact .same fun t2 h2 z2 h1 h3=>by simp only[zN,h1 x yQ,hx,hf,zB hn,h3 r zsm,hb,uN hc]
    .cases he
  .rename_i o ty n e off hf hx
   obtain⟨hn,he⟩:=xC he;cases he
   exact .same fun t2 h2 z2 h1 _=>by simp only[zN,h1 x yQ,hx,hf,uN hn]
  .cases he
 case field s x f =>
  unfold zN at he;dsimp only at he
  split at he
  .rename_i o ty n cs hf hx
   obtain⟨u,hu,hv⟩:=map_some he;cases hv
   exact .same fun t2 h2 z2 h1 _=>by simp only[zN,h1 x yQ,hx,hf,hu,Option.map_some]
  .cases he
 case indexAddr ty x ix =>
  unfold zN at he;dsimp only at he
  split at he
  .rename_i es k n hx hi
   obtain⟨hn,he⟩:=xC he
   split at he
   .rename_i e hel
    obtain⟨hn',he⟩:=xC he;cases he
    exact .same fun t2 h2 z2 h1 _=>by simp only[zN,h1 x yQ,h1 ix yQ,hx,hi,uN hn,hel,uN hn']
   .cases he
  .rename_i r off len k n hx hi
   obtain⟨hn,he⟩:=xC he
   split at he
   .rename_i b hb
    obtain⟨hn',he⟩:=xC he;cases he
    exact .same fun t2 h2 z2 h1 h3=>by simp only[zN,h1 x yQ,h1 ix yQ,hx,hi,uN hn,h3 r zsm,hb,uN hn']
   .cases he
  .rename_i e off k n hx hi
   obtain⟨hn,he⟩:=xC he;cases he
   exact .same fun t2 h2 z2 h1 _=>by simp only[zN,h1 x yQ,h1 ix yQ,hx,hi,uN hn]
  .rename_i r j off k n hx hi
   obtain⟨hn,he⟩:=xC he;cases he
   exact .same fun t2 h2 z2 h1 _=>by simp only[zN,h1 x yQ,h1 ix yQ,hx,hi,uN hn]
  .cases he
 case index ty x ix =>
  unfold zN at he;dsimp only at he
  split at he
  .rename_i cs k n hx hi
   obtain⟨hn,he⟩:=xC he;obtain⟨u,hu,hv⟩:=map_some he;cases hv
   exact .same fun t2 h2 z2 h1 _=>by simp only[zN,h1 x yQ,h1 ix yQ,hx,hi,uN hn,hu,Option.map_some]
  .rename_i s k n hx hi
   obtain⟨hn,he⟩:=xC he;obtain⟨u,hu,hv⟩:=map_some he;cases hv
   exact .same fun t2 h2 z2 h1 _=>by simp only[zN,h1 x yQ,h1 ix yQ,hx,hi,uN hn,hu,Option.map_some]
  .cases he
 case extract x i =>
  unfold zN at he;dsimp only at he
  split at he
  .rename_i vs hx
   obtain⟨u,hu,hv⟩:=map_some he;cases hv
   exact .same fun t2 h2 z2 h1 _=>by simp only[zN,h1 x yQ,hx,hu,Option.map_some]
  .cases he
 case call c =>
  obtain⟨callee,⟨args⟩,⟨tys⟩⟩:=c;cases callee
  case value=>simp[zN]at he
  case invoke=>simp[zN]at he
  case builtin b =>
   cases b
   case len =>
    match args,tys,he with
    | [x],[ty],he =>
      unfold zN at he;dsimp only at he;obtain⟨hn,he⟩:=xC he
      split at he
      .rename_i es hx
       cases he
       exact .same fun t2 h2 z2 h1 _=>by simp only[zN,uN hn,h1 x oO,hx]
      .rename_i a b len hx
       cases he
       exact .same fun t2 h2 z2 h1 _=>by simp only[zN,uN hn,h1 x oO,hx]
      .rename_i hx
       cases he
       exact .same fun t2 h2 z2 h1 _=>by simp only[zN,uN hn,h1 x oO,hx]
      .cases he
    |[],_,he=>simp[zN]at he
    |_::_::_,_,he=>simp[zN]at he
    |[_],[],he=>simp[zN]at he
    |[_],_::_::_,he=>simp[zN]at he
   case max =>
    match args,he with
    | [x,y],he =>
      unfold zN at he;dsimp only at he
      split at he
      .rename_i k a k' b hx hy
       cases he
       exact .same fun t2 h2 z2 h1 _=>by simp only[zN,h1 x oO,h1 y oO,hx,hy]
      .cases he
    |[],he=>simp[zN]at he
    |[_],he=>simp[zN]at he
    |_::_::_::_,he=>simp[zN]at he
   case min =>
    match args,he with
    | [x,y],he =>
      unfold zN at he;dsimp only at he
      split at he
      .rename_i k a k' b hx hy
       cases he
       exact .same fun t2 h2 z2 h1 _=>by simp only[zN,h1 x oO,h1 y oO,hx,hy]
      .cases he
    |[],he=>simp[zN]at he
    |[_],he=>simp[zN]at he
    |_::_::_::_,he=>simp[zN]at he
   case append =>
    match args,tys,he with
    | [x, y],[ty,ty2],he =>
      unfold zN at he;dsimp only at he
      split at he
      .rename_i es ks hs
       obtain⟨hn,he⟩:=xC he
       split at he
       .rename_i hx
        obtain⟨hn',he⟩:=xC he;cases he
        refine .new fun t2 h2 z2 h1 h3=>?_
        simp only[zN,h1 x oO,h1 y oO,Uo hs h3,hx,uN hn,uN hn']
       .rename_i r off len hx
        split at he
        .rename_i b hb
         obtain⟨hn',he⟩:=xC he;cases he
         refine⟨fun q hq=>?_,fun q hq hnone=>?_,fun t2 h2 z2 h1 h3 h4=>?_⟩
         .simp only[yI,uU,uX,fC]at hq
          simp[hset,hq.1,hq.2]
         .simp only[hset,zB hq]
          split
          .rfl
          .exact hnone
         .rw[Un]
          have hz:=h4 r zsm;simp only[zN,h1 x oO,h1 y oO,Uo hs (fun q hq=>h3 q (xN _ hq)),hx,uN hn,h3 r zsm,hb];exact uN ⟨hn'.1,hn'.2.1,hn'.2.2.1,hn'.2.2.2.1,by rw[hz];exact hn'.2.2.2.2.1,hn'.2.2.2.2.2⟩
        .cases he
       .cases he
      .cases he
    |[],_,he=>simp[zN]at he
    |[_],_,he=>simp[zN]at he
    |_::_::_::_,_,he=>simp[zN]at he
    |[_,_],[],he=>simp[zN]at he
    |[_,_],[_],he=>simp[zN]at he
    |[_,_],_::_::_::_,he=>simp[zN]at he
   all_goals (simp[zN]at he)
 all_goals (simp[zN]at he)
end
open Go.RowKit
variable {h:Hp}{ops:List Oper}{s:St}{q d:Option Nat}{t2:Tm}{base i j:Nat}{u v:PV}{oi:Oper}
section
variable {P:Program} {G:Gl} {C:wK}
def Ju {h2:Hp}:∀ {n:Nat} {v d:PV} {ks:List Nat},frz h n v=some (d,ks)->(∀ r∈ks,h2 r=h r)->frz h2 n v=some (d,ks):=by
 intro n
 induction n with
 | zero =>
   intro v d ks hf _;cases v<;>simp[frz]at hf ⊢<;>exact hf
 | succ n ih =>
   intro v d ks hf hk
   have hm':∀ (l ds:List PV) (ks:List Nat),zZ (frz h n) l=some (ds,ks)->(∀ r∈ks,h2 r=h r)->zZ (frz h2 n) l=some (ds,ks):=by
    intro l
    induction l with
    |nil=>intro ds ks hm _;simpa [zZ]using hm
    | cons x l ihl =>
      intro ds ks hm hk;unfold zZ at hm ⊢
      split at hm
      .rename_i d ks1 ds' ls h1 h2'
       cases hm
       rw[ih h1 (fun r hr=>hk r (sV _ hr)),ihl _ _ h2' (fun r hr=>hk r (pJ _ hr))]
      .cases hm
   cases v with
   | agg cs =>
     simp only[frz]at hf ⊢
     split at hf
     .rename_i ds ks' hm
      cases hf
      rw[hm' _ _ _ hm hk]
     .cases hf
   | tup cs =>
     simp only[frz]at hf ⊢
     split at hf
     .rename_i ds ks' hm
      cases hf
      rw[hm' _ _ _ hm hk]
     .cases hf
   | own r off len =>
     simp only[frz]at hf ⊢
     split at hf
     .rename_i b hb
      split at hf
      .rename_i hle
       split at hf
       .rename_i ds ks' hm
        cases hf
        rw[hk r zsm,hb];simp only[zE hle];rw[hm' _ _ _ hm (fun q hq=>hk q (xN _ hq))]
       .cases hf
      .cases hf
     .cases hf
   | ptr r i off =>
     simp only[frz]at hf ⊢
     split at hf
     .rename_i b hb
      split at hf
      .rename_i e he
       split at hf
       .rename_i d ks' hd
        cases hf
        rw[hk r zsm,hb];simp only[he];rw[ih hd (fun q hq=>hk q (xN _ hq))]
       .cases hf
      .cases hf
     .cases hf
   | func fn f c =>
     simp only[frz]at hf ⊢
     split at hf
     .rename_i fs ks1 cs ks2 hm1 hm2
      cases hf
      rw[hm' _ _ _ hm1 (fun q hq=>hk q (sV _ hq)),hm' _ _ _ hm2 (fun q hq=>hk q (pJ _ hq))]
     .cases hf
   |_=>first|(simp[frz]at hf;done)|simpa [frz]using hf
def Uq{h h2:Hp}{n:Nat}:∀ {l ds:List PV} {ks:List Nat},zZ (frz h n) l=some (ds,ks)->(∀ r∈ks,h2 r=h r)->zZ (frz h2 n) l=some (ds,ks)
 |[],ds,ks,hm,_=>by simpa [zZ]using hm
 | x::l,ds,ks,hm,hk=>by
   unfold zZ at hm ⊢
   split at hm
   .rename_i d ks1 ds' ls h1 h2'
    cases hm
    rw[Ju h1 (fun r hr=>hk r (sV _ hr)),Uq h2' (fun r hr=>hk r (pJ _ hr))]
   .cases hm
def Gm{h h2:Hp}{f g:PV->Option (PV×List Nat)}(hfg:∀ x y ks,f x=some (y,ks)->(∀ r∈ks,h2 r=h r)->g x=some (y,ks)):∀ {l ds:List PV} {ks:List Nat},zZ f l=some (ds,ks)->(∀ r∈ks,h2 r=h r)->zZ g l=some (ds,ks)
 |[],ds,ks,hm,_=>by simpa [zZ]using hm
 | x::l,ds,ks,hm,hk=>by
   simp only[zZ]at hm ⊢
   split at hm
   .rename_i d ks1 ds' ls h1 h2'
    cases hm
    rw[hfg _ _ _ h1 (fun r hr=>hk r (sV _ hr)),Gm hfg h2' (fun r hr=>hk r (pJ _ hr))]
   .cases hm
def Jv{h2:Hp}{n:Nat}  {x y:PV}{ks:List Nat}(he:cv1 h n q x=some (y,ks))(hk:∀ r∈ks,h2 r=h r):cv1 h2 n q x=some (y,ks):=by
 unfold cv1 at he ⊢
 split at he
 .exact he
 .split at he
  .rename_i e;rw[zE e];exact he
  .rename_i e;rw[zB e];exact Ju he hk
 .split at he
  .rename_i e;rw[zE e];exact he
  .rename_i e;rw[zB e];exact Ju he hk
 .exact Ju he hk
def uGU{h2:Hp}{n:Nat}  {x y:PV}{ks:List Nat}(he:cv h n q x=some (y,ks))(hk:∀ r∈ks,h2 r=h r):cv h2 n q x=some (y,ks):=by
 unfold cv at he ⊢
 split at he
 .split at he
  .rename_i hm
   cases he
   rw[Gm (fun _ _ _ e k=>Jv e k) hm hk]
  .cases he
 .split at he
  .rename_i h1 h2'
   cases he
   rw[Gm (fun _ _ _ e k=>Jv e k) h1 (fun r hr=>hk r (sV _ hr)),Gm (fun _ _ _ e k=>Jv e k) h2' (fun r hr=>hk r (pJ _ hr))]
  .cases he
 .exact Jv he hk
def Ur{h2:Hp}{n:Nat}  {l ds:List PV}{ks:List Nat}(hm:zZ (cv h n q) l=some (ds,ks))(hk:∀ r∈ks,h2 r=h r):zZ (cv h2 n q) l=some (ds,ks) :=
 Gm (fun _ _ _ e k=>uGU e k) hm hk
def Gn {key : Nat} {o:Oper}  {fp:FP}  {h':Hp} {z':Fz} (hd:opD P G C key o s fp v h' z') :
 (∀ r,r∉fp.wr->h' r=s.h r)/\(∀ r,r≠key->s.h r=none->h' r=none/\r∉fp.fz)/\z'=yY s.z fp.fz /\
 ∀ s2:St,(∀ x∈o.op.operands.toList,ev G s2.t x=ev G s.t x)->(∀ r∈fp.rd,s2.h r=s.h r)->(∀ r,r∈fp.wr\/r+mkz∈fp.rd->s2.z r=s.z r) ->
   opD P G C key o s2 fp v (over fp.wr h' s2.h) (yY s2.z fp.fz):=by
 unfold opD at hd
 split at hd
 .rename_i g args ts ho
  obtain⟨f,first,captured,hev,hd,rfl⟩:=hd
  have go:∀ {s2:St} {v:PV} {h2:Hp},(∀ x∈o.op.operands.toList,ev G s2.t x=ev G s.t x)->NZ C key s2.h s2.z f (first++args.toList.map (ev G s.t)++captured) fp v h2->opD P G C key o s2 fp v h2 (yY s2.z fp.fz):=fun {s2 v h2} h1 hd2=>by
   unfold opD;rw[ho];have ha:args.toList.map (ev G s2.t)=args.toList.map (ev G s.t):=rL fun x hx=>h1 x (by rw[ho];simp[Op.operands,Call.operands];exact zC (by simpa using hx))
   exact⟨f,first,captured,by rw[h1 g (by rw[ho];simp[Op.operands,Call.operands])];exact hev,by rw[ha];exact hd2,rfl⟩
  rcases hd with⟨m,ds,r,hfr,hC,hok,rfl,rfl,hrd,hwr⟩|⟨m,ds,qr,res,b1,hcv,hC,hq,rfl,rfl,hrd,hwr⟩|⟨m,ds,q,b0,b1,hcv,hC,hq,rfl,hrd,hwr⟩|⟨L,N,v0,nb,hC,hok,rfl,rfl,hfz,hrd,hwr⟩
  rotate_left 3
  .obtain ⟨hnd, hL,hkl⟩:=hok
   refine⟨fun r hr=>?_,fun r hr hn=>⟨?_,fun hm=>?_⟩,rfl,fun s2 h1 h2 h3=>?_⟩
   .rw [hwr] at hr
    cases nb with
    |none=>rfl
    | some b => have:r≠key:=by simpa [UF]using hr
                simp[Gb,hset,this]
   .cases nb with
    |none=>exact hn
    |some b=>simp[Gb,hset,hr,hn]
   .rw[hfz]at hm;cases hm
   .refine go h1 (zC (zC (zC ⟨L,N,v0,nb,hC,⟨hnd,fun p hp=>?_,hkl⟩,rfl,?_,hfz,hrd,hwr⟩)))
    .obtain⟨k1,k2,k3⟩:=hL p hp
     exact⟨(h2 _ (by rw[hrd];exact sV _ (zW.2 ⟨p,hp,rfl⟩))).trans k1,(h3 _ (zC (by rw[hrd];exact pJ _ (zW.2 ⟨p,hp,rfl⟩)))).trans k2,k3⟩
    .rw[hwr]
     cases nb with
     |none=>rfl
     |some b=>exact Co _ _ _ _
  rotate_left 2
  .refine⟨fun r hr=>?_,fun r hr hn=>⟨?_,fun hm=>?_⟩,rfl,fun s2 h1 h2 h3=>?_⟩
   .rw[hwr]at hr
    have:r≠q:=by simpa using hr
    simp[hset,this]
   .have:r≠q:=fun e=>by rw[e,hq.1]at hn;cases hn
    simp[hset,this,hn]
   .obtain⟨b,hb⟩:=BF (fun _ _ _ e=>Jr e) hcv r hm
    rw[hn]at hb;cases hb
   .refine go h1 (zC (zC (zF ⟨m,ds,q,b0,b1,Ur hcv (fun r hr=>h2 r (by rw[hrd];exact xN _ hr)),hC,⟨(h2 q (by rw[hrd];simp)).trans hq.1,(h3 q (by rw[hwr];simp)).trans hq.2.1,hq.2.2⟩,?_,hrd,hwr⟩)))
    rw[hwr];exact Co _ _ _ _
  rotate_left
  .refine⟨fun r hr=>?_,fun r hr hn=>⟨?_,fun hm=>?_⟩,rfl,fun s2 h1 h2 h3=>?_⟩
   .rw [hwr] at hr
    cases qr with
    | none => have:r≠key:=by simpa [EN]using hr
              simp[mY,hset,this]
    | some q => have:r≠q.1/\r≠key:=by simpa [EN]using hr
                simp[mY,hset,this.1,this.2]
   .cases qr with
    |none=>simp[mY,hset,hr,hn]
    |some q=>by_cases e:r=q.1<;>simp[mY,hset,hr,hn]
   .obtain⟨b,hb⟩:=BF (fun _ _ _ e=>Jr e) hcv r hm
    rw[hn]at hb;cases hb
   .refine go h1 (zC (zF ⟨m,ds,qr,res,b1,Ur hcv (fun r hr=>h2 r (by rw[hrd];exact pJ _ hr)),hC,fun r b e=>?_,rfl,?_,hrd,hwr⟩))
    .obtain⟨k1,k2,k3,k4⟩:=hq r b e
     refine⟨(h2 r (by rw[hrd,e];simp[EN])).trans k1,(h3 r (zF (by rw[hwr,e];simp[EN]))).trans k2,k3,k4⟩
    .rw[hwr]
     cases qr with
     |none=>exact Co _ _ _ _
     |some q=>exact Un _ _ _ _ _
  refine⟨fun q hq=>?_,fun q hq hn=>⟨?_,fun hm=>?_⟩,rfl,fun s2 h1 h2 h3=>?_⟩
  .rw[hwr]at hq
   cases r with
   | fresh els sz agg => have:q≠key:=by simpa [CRes.keys]using hq
                         simp[CRes.heap,hset,this]
   |_=>rfl
  .cases r with
   |fresh els sz agg=>simp[CRes.heap,hset,hq,hn]
   |_=>exact hn
  .obtain⟨b,hb⟩:=dQ hfr q hm
   rw[hn]at hb;cases hb
  .refine go h1 (zF ⟨m,ds,r,Uq hfr (fun q hq=>h2 q (by rw[hrd];exact hq)),hC,by cases r<;>exact hok,rfl,?_,hrd,hwr⟩)
   rw[hwr];cases r with
   |fresh els sz agg=>exact Co _ _ _ _
   |_=>rfl
 .rename_i op hne
  obtain⟨he,rfl,hf⟩:=hd;have L:=vJ0 he;have hz:∀ z:Fz,yY z fp.fz=z:=fun z=>by rw[hf];funext r;simp[yY]
  refine⟨L.out,fun r hr hn=>⟨L.fresh r hr hn,by rw[hf];simp⟩,(hz _).symm,fun s2 h1 h2 h3=>?_⟩;unfold opD
  split
  .rename_i g args ts ho
   exact absurd ho (hne g args ts)
  .exact⟨L.loc s2.t s2.h s2.z h1 h2 fun r hr=>h3 r (zF hr),hz _,hf⟩
def vT0{t:Tm}   (h:i≠j):mE (mE t i u) j v=mE (mE t j v) i u:=by
 funext k
 simp only[mE];by_cases h1:k=i
 .rw[h1]
  simp[h]
 .by_cases h2:k=j
  .rw[h2];simp[y9 h]
  .simp[h1,h2]
def put_comm  {e:Option Nat}  (h:∀ i,d=some i->e≠some i):put (put s d u) e v=put (put s e v) d u:=by
 cases d with
 |none=>rfl
 | some i =>
   cases e with
   |none=>rfl
   | some j =>
     have:i≠j:=fun e=>h i rfl (by rw[e])
     simp only[put,vT0 this]
def Us     (h:d≠some i):(put s d u).t i=s.t i:=by
 cases d with
 |none=>rfl
 | some j =>
   have:i≠j:=fun e=>h (by rw[e])
   simp[put,mE,this]
@[simp] theorem BG    : (put s d u).h=s.h:=by cases d<;>rfl
@[simp] theorem aF    : (put s d u).z=s.z:=by cases d<;>rfl
@[simp] theorem Cq    : (put s d u).nx=s.nx:=by cases d<;>rfl
def BH  {o:Oper}{t:Tm}(h:∀ d∈o.looksAt ops.toArray,t2 d=t d):wants ops o t2=wants ops o t:=by
 unfold wants;cases hg:o.guard with
 |none=>rfl
 | some q =>
   obtain⟨j,want⟩:=q;simp only;cases hd:(ops[j]?).bind (·.dst) with
   |none=>rfl
   | some d =>
     have:t2 d=t d:=h d (by simp[Oper.looksAt,hg,hd]);simp only[this]
def Jw  {o:Oper}{t:Tm}(h:∀ d∈o.looksAt ops.toArray,t2 d=t d):∀ x∈o.op.operands.toList,ev G t2 x=ev G t x:=fun x hx=>uGC fun i hi=>h i (by
 unfold Oper.looksAt;rw[y8]
 left
 rw[List.mem_filterMap]
 exact⟨x,hx,by rw[hi]⟩)
def uB8{a b:FP}(h:FP.apart a b=true):(∀ k∈a.wr,k∉b.rd/\k∉b.wr/\k∉b.fz)/\(∀ k∈b.wr,k∉a.rd/\k∉a.fz)/\(∀ k∈a.fz,k+mkz∉b.rd)/\∀ k∈b.fz,k+mkz∉a.rd:=by
 simp only[FP.apart,xO,xZ,bV,contains_false]at h;exact⟨fun k hk=>⟨(h.1.1.1 k hk).1.1,(h.1.1.1 k hk).1.2,(h.1.1.1 k hk).2⟩,fun k hk=>h.1.1.2 k hk,h.1.2,h.2⟩
def vZN(z:Fz)(a b:List Nat):yY (yY z a) b=yY (yY z b) a:=by
 funext r
 simp only[yY];cases a.contains r<;>cases b.contains r<;>simp
def vSU   {fps:Nat->FP}  {oj:Oper}(hi:ops[i]?=some oi)(hj:ops[j]?=some oj)(ha:oi.apart ops.toArray oj=true)(hf:FP.apart (fps i) (fps j)=true)
 {s1 s2:St} (h1:aD P G C ops base fps i s s1) (h2:aD P G C ops base fps j s1 s2):∃ s1',aD P G C ops base fps j s s1'/\aD P G C ops base fps i s1' s2:=by
 obtain⟨a1,a2,a3⟩:=Oper.apart_spec ha;obtain⟨f1,f2,f3,f4⟩:=uB8 hf;obtain⟨oi',hi',h1⟩:=h1;rw[hi]at hi';cases hi';obtain⟨oj',hj',h2⟩:=h2;rw[hj]at hj';cases hj';have look_j:∀ (s:St) (u:PV),∀ d∈oj.looksAt ops.toArray,s.t d=(put s oi.dst u).t d:=fun s u d hd=>(Us (fun e=>a1 d e hd)).symm
 have look_i:∀ (s:St) (u:PV),∀ d∈oi.looksAt ops.toArray,(put s oj.dst u).t d=s.t d:=fun s u d hd=>Us (fun e=>a3 d e hd)
 rcases h1 with⟨w1,v1,k1,z1,d1,rfl⟩|⟨w1,rfl⟩
 .obtain⟨o1,o2,o3,o4⟩:=Gn d1
  rcases h2 with⟨w2,v2,k2,z2,d2,rfl⟩|⟨w2,rfl⟩
  .obtain⟨p1,p2,p3,p4⟩:=Gn d2
   simp only[BG,aF]at p1 p2 p3
   have e1:=p4 s (Jw (fun d hd=>by have:=look_j { s with h:=k1,z:=z1 } v1 d hd;exact this)) (fun r hr=>by
    simp only[BG]
    exact(o1 r (fun hw=>(f1 r hw).1 hr)).symm) (fun r hr=>by
    simp only[aF];rw[o3];simp only[yY];have:(fps i).fz.contains r=false:=contains_false.2 (hr.elim (fun hr=>(f2 r hr).2) fun hr hf=>f3 r hf hr)
    rw[this];rfl)
   refine⟨put { s with h:=over (fps j).wr k2 s.h,z:=yY s.z (fps j).fz } oj.dst v2,⟨oj,hj,zF ⟨?_,v2,_,_,e1,rfl⟩⟩,⟨oi,hi,zF ⟨?_,v1,over (fps i).wr k1 (over (fps j).wr k2 s.h),yY (yY s.z (fps j).fz) (fps i).fz,?_,?_⟩⟩⟩
   .rw[<- w2]
    exact(BH (fun d hd=>(look_j { s with h:=k1,z:=z1 } v1 d hd).symm)).symm
   .rw[<- w1]
    exact BH (fun d hd=>look_i { s with h:=over (fps j).wr k2 s.h,z:=yY s.z (fps j).fz } v2 d hd)
   .have:=o4 (put { s with h:=over (fps j).wr k2 s.h,z:=yY s.z (fps j).fz } oj.dst v2) (Jw (fun d hd=>look_i { s with h:=over (fps j).wr k2 s.h,z:=yY s.z (fps j).fz } v2 d hd)) (fun r hr=>by
     simp only[BG,over];have:(fps j).wr.contains r=false:=contains_false.2 (fun hw=>(f2 r hw).1 hr)
     rw[this];rfl) (fun r hr=>by
     simp only[aF,yY];have:(fps j).fz.contains r=false:=contains_false.2 (hr.elim (fun hr=>(f1 r hr).2.2) fun hr hf=>f4 r hf hr)
     rw[this];rfl)
    simpa only[BG,aF]using this
   .have hz:z2=yY (yY s.z (fps j).fz) (fps i).fz:=by rw[p3,o3,vZN]
    have hk:k2=over (fps i).wr k1 (over (fps j).wr k2 s.h):=by
     funext r
     simp only[over];by_cases hwi:(fps i).wr.contains r=true
     .rw[zE hwi]
      have:r∉(fps j).wr:=(f1 r (by simpa using hwi)).2.1;exact p1 r this
     .rw[zB hwi]
      by_cases hwj:(fps j).wr.contains r=true
      .rw[zE hwj]
      .rw[zB hwj]
       rw[p1 r (by simpa using hwj)];exact o1 r (by simpa using hwi)
    rw[<- hz,<- hk];have:∀ (q:St) (d:Option Nat) (u:PV) (hh:Hp) (zz:Fz),({ put q d u with h:=hh,z:=zz }:St)=put { q with h:=hh,z:=zz } d u:=fun q d u hh zz=>by cases d<;>rfl
    rw[this,this];exact put_comm a2
  .refine⟨put s oj.dst (.tup []),⟨oj,hj,zC ⟨?_,rfl⟩⟩,⟨oi,hi,zF ⟨?_,v1,over (fps i).wr k1 s.h,yY s.z (fps i).fz,?_,?_⟩⟩⟩
   .rw[<- w2]
    exact(BH (fun d hd=>(look_j { s with h:=k1,z:=z1 } v1 d hd).symm)).symm
   .rw[<- w1]
    exact BH (fun d hd=>look_i s (.tup []) d hd)
   .have:=o4 (put s oj.dst (.tup [])) (Jw (fun d hd=>look_i s (.tup []) d hd)) (fun r _=>by simp only[BG]) (fun r _=>by simp only[aF])
    simpa only[BG,aF]using this
   .have hk:k1=over (fps i).wr k1 s.h:=by
     funext r
     simp only[over];by_cases hwi:(fps i).wr.contains r=true
     .rw[zE hwi]
     .rw[zB hwi];exact o1 r (by simpa using hwi)
    rw[<- hk,<- o3];have:∀ (q:St) (d:Option Nat) (u:PV) (hh:Hp) (zz:Fz),({ put q d u with h:=hh,z:=zz }:St)=put { q with h:=hh,z:=zz } d u:=fun q d u hh zz=>by cases d<;>rfl
    rw[this];exact put_comm a2
 .rcases h2 with⟨w2,v2,k2,z2,d2,rfl⟩|⟨w2,rfl⟩
  .obtain⟨p1,p2,p3,p4⟩:=Gn d2
   simp only[BG,aF]at p1 p2 p3;have e1:=p4 s (Jw (fun d hd=>look_j s (.tup []) d hd)) (fun r _=>by simp only[BG]) (fun r _=>by simp only[aF]);refine⟨put { s with h:=over (fps j).wr k2 s.h,z:=yY s.z (fps j).fz } oj.dst v2,⟨oj,hj,zF ⟨?_,v2,_,_,e1,rfl⟩⟩,⟨oi,hi,zC ⟨?_,?_⟩⟩⟩
   .rw[<- w2]
    exact(BH (fun d hd=>(look_j s (.tup []) d hd).symm)).symm
   .rw[<- w1]
    exact BH (fun d hd=>look_i { s with h:=over (fps j).wr k2 s.h,z:=yY s.z (fps j).fz } v2 d hd)
   .have hk:k2=over (fps j).wr k2 s.h:=by
     funext r
     simp only[over];by_cases hwi:(fps j).wr.contains r=true
     .rw[zE hwi]
     .rw[zB hwi];exact p1 r (by simpa using hwi)
    rw[<- hk,<- p3];have:∀ (q:St) (d:Option Nat) (u:PV) (hh:Hp) (zz:Fz),({ put q d u with h:=hh,z:=zz }:St)=put { q with h:=hh,z:=zz } d u:=fun q d u hh zz=>by cases d<;>rfl
    rw[this];exact put_comm a2
  .refine⟨put s oj.dst (.tup []),⟨oj,hj,zC ⟨?_,rfl⟩⟩,⟨oi,hi,zC ⟨?_,?_⟩⟩⟩
   .rw[<- w2]
    exact(BH (fun d hd=>(look_j s (.tup []) d hd).symm)).symm
   .rw[<- w1]
    exact BH (fun d hd=>look_i s (.tup []) d hd)
   .exact put_comm a2
def Gp(P:Program)(G:Gl)(C:wK)(ops:List Oper)(base:Nat)(fps:Nat->FP)(K:St->Prop):Nat->Array Bool->St->Prop
 |0,listed,s=>Region.ready .any ops.toArray listed=[]/\K s
 |fuel+1,listed,s=>(Region.ready .any ops.toArray listed=[]->K s)/\∀ i∈Region.ready .any ops.toArray listed,∃ s',aD P G C ops base fps i s s'/\Gp P G C ops base fps K fuel (listed.setIfInBounds i true) s'
def ET(ops:List Oper)(l:Array Bool):Prop:=∀ j o,ops[j]?=some o->l.getD j false=true->∀ e∈o.after,Region.binds .any e=true->l.getD e.on false=true
def Ut{l:Array Bool}  (h:l.getD j false=true):(l.setIfInBounds i true).getD j false=true:=by
 by_cases e:i=j
 .subst e
  by_cases hs:i<l.size
  .simp[hs]
  .simp[GF (Cb hs)]at h
 .rw[getD_set_ne false e];exact h
def Nw  {l:Array Bool}  (h:ET ops l)(hi:i∈Region.ready .any ops.toArray l):ET ops (l.setIfInBounds i true):=fun j o ho hj e he hb=>by
 by_cases hij:i=j
 .subst hij
  obtain⟨_,o',ho',hall⟩:=mem_ready.1 hi
  have : o' = o := by have h1:ops[i]?=some o':=by simpa using ho'
                      rw[ho]at h1;cases h1;rfl
  subst this;exact Ut (hall e he hb)
 .rw[getD_set_ne false hij]at hj
  exact Ut (h j o ho hj e he hb)
def Jy{ops:List Oper}{l:Array Bool}{k:Nat}(h:ET ops l):∀ (f:Nat) (o:Oper),(∀ e∈o.after,Region.binds .any e=true->l.getD e.on false=true)->rN ops f o k=true->l.getD k false=true
 |0,_,_,hr=>by unfold rN at hr;cases hr
 | f + 1,o,ho,hr=>by
   unfold rN at hr;rw[kN]at hr;rcases hr with hr|hr
   .rw[Array.any_eq_true]at hr
    obtain⟨i,hi,h1⟩:=hr;simp only[xO,Aq]at h1;have:=ho _ (Array.getElem_mem hi) h1.2
    rwa [h1.1]at this
   .rw[Array.any_eq_true]at hr
    obtain⟨i,hi,h1⟩:=hr;rw[xO]at h1;have h2:=ho _ (Array.getElem_mem hi) h1.1;have h3:=h1.2
    split at h3
    .rename_i o' ho'
     exact Jy h f o' (fun e he hb=>h _ o' ho' h2 e he hb) h3
    .cases h3
def vTB   {fps:Nat->FP} {K:St->Prop}   (hi:ops[i]?=some oi):∀ (fuel:Nat) (listed:Array Bool) (s s1:St),ET ops listed ->
 (∀ j oj,ops[j]?=some oj->j≠i->listed.getD j true=false->((∀ e∈oj.after,Region.binds .any e=true->e.on≠i)->oi.apart ops.toArray oj=true)/\(rN ops 4 oj i=false->FP.apart (fps i) (fps j)=true)) ->
 i∈Region.ready .any ops.toArray listed->aD P G C ops base fps i s s1->Gp P G C ops base fps K fuel (listed.setIfInBounds i true) s1->Gp P G C ops base fps K (fuel+1) listed s:=by
 intro fuel
 induction fuel with
 | zero =>
   intro listed s s1 hcl hfree hr hd H;refine⟨fun h=>(by rw[h]at hr;cases hr),fun j hj=>?_⟩;by_cases hji:j=i
   .subst hji;exact⟨s1,hd,H⟩
   .have:=ready_mono hj hji
    rw[H.1]at this;cases this
 | succ fuel ih =>
   intro listed s s1 hcl hfree hr hd H;refine⟨fun h=>(by rw[h]at hr;cases hr),fun j hj=>?_⟩;by_cases hji:j=i
   .subst hji;exact⟨s1,hd,H⟩
   .obtain⟨s2,d2,H2⟩:=H.2 j (ready_mono hj hji)
    obtain⟨hun,oj,hoj,hall⟩:=mem_ready.1 hj;have hoj':ops[j]?=some oj:=by simpa using hoj
    have hnot:∀ e∈oj.after,Region.binds .any e=true->e.on≠i:=by
     intro e he hb heq;have h1:=hall e he hb;have h0:=(mem_ready.1 hr).1;rw[heq]at h1;rcases nD i listed.size with h'|h'
     .simp[h']at h0 h1;rw[h0]at h1;cases h1
     .simp[GF h']at h1
    have hrea:rN ops 4 oj i=false:=by
     cases hrb:rN ops 4 oj i with
     |false=>rfl
     | true =>
       have h1:=Jy hcl 4 oj hall hrb;have h0:=(mem_ready.1 hr).1;rcases nD i listed.size with h'|h'
       .simp[h']at h0 h1;rw[h0]at h1;cases h1
       .simp[GF h']at h1
    obtain⟨q1,q2⟩:=hfree j oj hoj' hji (by simpa using hun);obtain⟨s1',g1,g2⟩:=vSU hi hoj' (q1 hnot) (q2 hrea) hd d2;refine⟨s1',g1,ih (listed.setIfInBounds j true) s1' s2 (Nw hcl hj) (fun k ok hk hki hkun=>?_) (ready_mono hr (y9 hji)) g2 ?_⟩
    .refine hfree k ok hk hki ?_
     by_cases hjk:j=k
     .subst hjk;simpa using hun
     .rw[getD_set_ne true hjk]at hkun;exact hkun
    .rw[Array.setIfInBounds_comm _ _ hji]
     exact H2
def aG(P:Program)(G:Gl)(C:wK)(ops:List Oper)(base:Nat)(fps:Nat->FP)(K:St->Prop):Nat->Nat->St->Prop
 |0,_,s=>K s
 |m+1,i,s=>∃ s',aD P G C ops base fps i s s'/\aG P G C ops base fps K m (i+1) s'
def Uu{ops:List Oper}{base:Nat}{fps:Nat->FP}{K:St->Prop}
 (hp:∀ i j oj,i<j->ops[j]?=some oj->rN ops 4 oj i=false->FP.apart (fps i) (fps j)=true) :
 ∀ (m k:Nat) (listed:Array Bool) (s:St),k+m=ops.length->ET ops listed->(∀ j,j<k->listed.getD j true=true)->Region.lexFrom .any ops.toArray m k listed=true->aG P G C ops base fps K m k s->Gp P G C ops base fps K m listed s
 |0,k,listed,s,_,_,_,hB,h=>⟨by simpa [Region.lexFrom]using hB,h⟩
 | m + 1,k,listed,s,hl,hcl,hdone,hB,h=>by
   simp only[Region.lexFrom,xO]at hB;obtain⟨⟨hr,hf⟩,hB'⟩:=hB;obtain⟨s',hd,hc⟩:=h;have hk:k<ops.length:=zom
   have h0:ops[k]?=some ops[k]:=wN hk;have hfree:=Region.free_spec (ops:=ops.toArray) (oi:=ops[k]) (by simp[hk]) hf;have hr':k∈Region.ready .any ops.toArray listed:=by simpa using hr
   refine vTB h0 m listed s s' hcl (fun j oj hj hjk hun=>⟨hfree j oj (by simpa using hj) hjk hun,fun hno=>?_⟩) hr' hd
    (Uu hp m (k+1) _ s' zom (Nw hcl hr') (fun j hj=>?_) hB' hc)
   .have hlt:k<j:=by
     rcases NH hjk with h|h
     .have:=hdone j h;rw[hun]at this;cases this
     .exact h
    exact hp k j oj hlt hj hno
   .rcases Ae (Ah hj) with h|h
    .have:=hdone j h
     rw[getD_set_ne true zom];exact this
    .subst h
     by_cases hs:j<listed.size
     .simp[hs]
     .simp[GF (Cb hs)]
end
open Go.RowKit
variable {dst:Option Nat}{C:wK}{ops:List Oper}{v':Value}{I:rP}{fp:FP}
def Gq(N:Nat):Operand->Bool
 |.tmp t=>decide (t<N)
 |_=>true
def iN(N:Nat)(o:Oper):Bool:=(match o.dst with|some d=>decide (d<N)|none=>true)&&o.op.operands.toList.all (Gq N)
def noR:Code->Bool
 |.rangeFunc ..=>false
 |.seq a b=>noR a&&noR b
 |.cond _ a b=>noR a&&noR b
 |.block _ c=>noR c
 |.loop c=>noR c
 |.scope c=>noR c
 |_=>true
def mF(N:Nat):Code->Bool
 |.skip|.label _|.exit _|.ret=>true
 |.seq a b=>mF N a&&mF N b
 |.cond c a b=>Gq N c&&(mF N a&&mF N b)
 |.block _ c=>mF N c
 |.loop c=>mF N c
 |.scope c=>mF N c
 |.region _ ops D=>ops.toList.all (iN N)&&(!D||Region.lexB .any ops)
 |.rangeFunc g ps x y=>Gq N g&&(ps.toList.all (fun p=>decide (p<N))&&(noR x&&noR y&&(mF N x&&mF N y)))
 |_=>false
structure Rel(E:Env)(G:Gl)(N:Nat)(df:List Deferred)(s:St)(a:Act)(w:World)(A:Nat->Prop)(κ:Ka):Prop where
 hr:HR E G w A κ s.h s.z
 fresh:jT s.nx κ s.h s.z
 n0:E.n0<=s.nx
 tm:∀ i,i<N->RV w A κ (s.t i) (a.tmps.getD i undef)
 size:a.tmps.size=N
 df:a.defers=df
section
variable {P:Program} {E:Env} {G:Gl} {N:Nat} {df:List Deferred} {w:World} {A:Nat->Prop} {κ:Ka} {s:St} {a:Act}
def Ny(H:HR E G w A κ s.h s.z)(ht:∀ i,i<N->RV w A κ (s.t i) (a.tmps.getD i undef)){x:Operand}(hx:Gq N x=true):RV w A κ (ev G s.t x) (a.eval x):=by
 cases x with
 |tmp t=>exact ht t (by simpa [Gq]using hx)
 |const v=>exact Nh v
 | global g =>
   simp only[ev,Act.eval]
   split
   .rename_i e he;exact H.glob g e he
   .exact .any _
 |func f=>exact .func _ [] [] _ _ rfl rfl (fun i d hd=>by simp at hd) (fun i d hd=>by simp at hd)
def Uv(H:HR E G w A κ s.h s.z)(ht:∀ i,i<N->RV w A κ (s.t i) (a.tmps.getD i undef)){o:Oper}(ho:iN N o=true):OkOp G w A κ s.t a.eval o.op:=fun x hx=>by
 simp only[iN,xO,xZ]at ho;exact Ny H ht (ho.2 x hx)
def Jz{t:Tm}  {v:PV}  (hs:a.tmps.size=N)(hd:∀ d,dst=some d->d<N)(ht:∀ i,i<N->RV w A κ (t i) (a.tmps.getD i undef))(hv:RV w A κ v v') :
 ∀ i,i<N->RV w A κ ((match dst with|some d=>mE t d v|none=>t) i) ((a.put dst v').tmps.getD i undef):=by
 intro i hi;cases dst with
 |none=>exact ht i hi
 | some d =>
   have hdN:=hd d rfl;simp only[Act.put,mE];by_cases h:i=d
   .subst h
    simpa [Array.getD,hs,hi]using hv
   .rw[zB h]
    have:=ht i hi;have hne:d≠i:=fun e=>h e.symm
    simpa [Array.getD,hs,hi,Array.getElem_setIfInBounds,hne]using this
def J0   (hs:a.tmps.size=N):(a.put dst v').tmps.size=N:=by
 cases dst<;>simp[Act.put,hs]
def J1   {df:List Deferred}(hs:a.defers=df):(a.put dst v').defers=df:=by
 cases dst<;>simp[Act.put,hs]
def Gr{o:Oper}(ho:iN N o=true):∀ d,o.dst=some d->d<N:=fun d hd=>by
 simp only[iN,hd,xO,tC]at ho;exact ho.1
def J2  (hf:∀ o∈ops,iN N o=true) (hs:a.tmps.size=N) (ht:∀ i,i<N->RV w A κ (s.t i) (a.tmps.getD i undef)) {o:Oper} {b:Bool} (h:wants ops o s.t=some b) :
 Region.wanted o (yielded ops.toArray a.tmps)=b:=by
 unfold wants at h;unfold Region.wanted;cases hg:o.guard with
 |none=>rw[hg]at h;simpa using h
 | some q =>
   obtain⟨j,want⟩:=q;rw[hg]at h;simp only at h ⊢;cases hd:(ops[j]?).bind (·.dst) with
   |none=>rw[hd]at h;cases h
   | some d =>
     rw[hd]at h;simp only at h
     have hdN:d<N:=by
      cases ho:ops[j]? with
      |none=>rw[ho]at hd;cases hd
      | some oj =>
        rw[ho]at hd;exact Gr (hf oj (wO ho)) d hd
     have hv:=ht d hdN;have hget:a.tmps[d]?=some (a.tmps.getD d undef):=by simp[Array.getD,hs,hdN]
     split at h
     .rename_i b' hb
      rw[hb]at hv;cases h
      simp[yielded,hd,hget,hv.bool_inv]
     .rename_i hb
      rw[hb]at hv;cases h
      obtain⟨vs,hvs,_⟩:=hv.tup_inv;simp[yielded,hd,hget,hvs]
     .cases h
def Uw{t:Tm}{w':World}{A':Nat->Prop}{κ':Ka}(hA:∀ b,A b->A' b)(hc:∀ b o,A b->w'.cell? ⟨b,o,none⟩=w.cell? ⟨b,o,none⟩)(hk:∀ r x,κ r=some x->κ' r=some x)
 (ht:∀ i,i<N->RV w A κ (t i) (a.tmps.getD i undef)):∀ i,i<N->RV w' A' κ' (t i) (a.tmps.getD i undef):=fun i hi=>(ht i hi).mono hA hc hk
def Ux   {D:Bool}{o:Oper}{K:FP->St->Prop}(h:uG P G C I D o K s) :
 (∃ fp v h' z',opD P G C s.nx o s fp v h' z'/\K fp (put { s with h:=h',z:=z',nx:=s.nx+1 } o.dst v)) \/
 (D=false/\∃ f la,Nv P G o s.t f la/\I f la (fun v s'=>K ⟨[],[],[]⟩ (put { s' with t:=s.t } o.dst v)) s):=by
 unfold uG at h
 split at h
 .rename_i g args ts ho
  split at h
  .rename_i f first captured hev
   rcases h with⟨fp,v,h',hd,h⟩|⟨hd,h⟩
   .refine zF ⟨fp,v,h',_,?_,h⟩
    unfold opD;rw[ho];exact⟨f,first,captured,hev,hd,rfl⟩
   .exact zC ⟨hd,f,_,zF ⟨g,args,ts,first,captured,ho,hev,rfl⟩,h⟩
  .exact h.elim
 .rename_i g m args ts ho
  obtain⟨hd,u,v,f,r,hev,hm,hr,h⟩:=h;exact zC ⟨hd,f,_,zC ⟨g,m,args,ts,u,v,r,ho,hev,hm,hr,rfl⟩,h⟩
 .rename_i op hne hne2
  split at h
  .rename_i v h' rd wr he
   left
   refine⟨⟨rd,wr,[]⟩,v,h',s.z,?_,h⟩;unfold opD
   split
   .rename_i g args ts ho
    exact absurd ho (hne g args ts)
   .exact⟨he,rfl,rfl⟩
  .exact h.elim
def vNA  {o:Oper}  {acc:List (Nat×FP)}(h:rO ops o fp acc=true):∀ k f,(k,f)∈acc->rN ops 4 o k=false->FP.apart f fp=true:=by
 intro k f hm hno;simp only[rO,xZ,kN]at h;rcases h (k,f) hm with h|h
 .rw[hno]at h;cases h
 .exact h
def Nz {C:wK} {I:rP} {ops:List Oper} {base:Nat} {K:St->Prop}:∀ (m i:Nat) (acc:List (Nat×FP)) (l:List Oper) (s:St),i+m=ops.length->l=ops.drop i->s.nx=base+i ->
 wpOps P G C I true ops i acc l K s ->
 ∃ fps:Nat->FP,aG P G C ops base fps (fun s'=>K { s' with nx:=base+ops.length }) m i { s with nx:=base } /\
   (∀ j oj,i<=j->ops[j]?=some oj->(∀ k f,(k,f)∈acc->rN ops 4 oj k=false->FP.apart f (fps j)=true) /\
     ∀ k,i<=k->k<j->rN ops 4 oj k=false->FP.apart (fps k) (fps j)=true)
 | 0,i,acc,l,s,hi,hl,hn,h=>by
   have hi':i=ops.length:=zom
   subst hi';have:l=[]:=by rw[hl];simp
   subst this;refine⟨fun _=>⟨[],[],[]⟩,?_,fun j oj hj hoj=>?_⟩
   .have e:({ s with nx:=base+ops.length }:St)=s:=by rw[<- hn]
    show K _
    rw[e];exact h
   .have:=(xW.1 hoj).1;omega
 | m + 1,i,acc,l,s,hi,hl,hn,h=>by
   have hlt:i<ops.length:=zom
   have h0:ops[i]?=some ops[i]:=wN hlt;have hl':l=ops[i]::ops.drop (i+1):=by rw[hl];exact kI hlt
   rw[hl']at h
   have run:wants ops ops[i] s.t=some true->uG P G C I true ops[i] (fun fp s'=>(true=true->rO ops ops[i] fp acc=true)/\wpOps P G C I true ops (i+1) ((i,fp)::acc) (ops.drop (i+1)) K s') s ->
    ∃ fps:Nat->FP,aG P G C ops base fps (fun s'=>K { s' with nx:=base+ops.length }) (m+1) i { s with nx:=base } /\
    (∀ j oj,i<=j->ops[j]?=some oj->(∀ k f,(k,f)∈acc->rN ops 4 oj k=false->FP.apart f (fps j)=true) /\
      ∀ k,i<=k->k<j->rN ops 4 oj k=false->FP.apart (fps k) (fps j)=true):=by
    intro hw hop;rcases Ux hop with⟨fp,v,h',z',hd,hcl,hrest⟩|⟨hf,_⟩
    .obtain⟨fps,hc,hp⟩:=Nz (base:=base) m (i+1) ((i,fp)::acc) (ops.drop (i+1)) _ zom rfl (by rw[Cq];show s.nx+1=_;omega) hrest
     refine⟨fun k=>if k=i then fp else fps k,⟨put { s with h:=h',z:=z',nx:=base } ops[i].dst v,⟨ops[i],h0,zF ⟨hw,v,h',z',?_,rfl⟩⟩,?_⟩,fun j oj hj hoj=>?_⟩
     .simp only[uA]
      rw[<- hn];exact hd
     .have e:({ put { s with h:=h',z:=z',nx:=s.nx+1 } ops[i].dst v with nx:=base }:St)=put { s with h:=h',z:=z',nx:=base } ops[i].dst v:=by cases ops[i].dst<;>rfl
      rw[e]at hc
      have hcong:∀ (m j:Nat) (q:St),i<j->aG P G C ops base fps (fun s'=>K { s' with nx:=base+ops.length }) m j q->aG P G C ops base (fun k=>if k=i then fp else fps k) (fun s'=>K { s' with nx:=base+ops.length }) m j q:=by
       intro m
       induction m with
       |zero=>intro j q _ h;exact h
       | succ m ih =>
         intro j q hj ⟨q',hq,h⟩;refine⟨q',?_,ih (j+1) q' zom h⟩;unfold aD at hq ⊢;simp only[zB (show ¬ j=i by omega)];exact hq
      exact hcong m (i+1) _ zom hc
     .by_cases hji:j=i
      .subst hji
       simp only[uA];rw[h0]at hoj;cases hoj;exact⟨fun k f hm hno=>vNA (hcl rfl) k f hm hno,fun k h1 h2=>by omega⟩
      .obtain⟨p1,p2⟩:=hp j oj zom hoj
       simp only[zB hji];refine⟨fun k f hm hno=>p1 k f (xN _ hm) hno,fun k h1 h2 hno=>?_⟩;by_cases hki:k=i
       .subst hki
        simp only[uA];exact p1 k fp zsm hno
       .simp only[zB hki]
        exact p2 k zom h2 hno
    .cases hf
   have pass:wants ops ops[i] s.t=some false->wpOps P G C I true ops (i+1) acc (ops.drop (i+1)) K (put { s with nx:=s.nx+1 } ops[i].dst (.tup [])) ->
    ∃ fps:Nat->FP,aG P G C ops base fps (fun s'=>K { s' with nx:=base+ops.length }) (m+1) i { s with nx:=base } /\
    (∀ j oj,i<=j->ops[j]?=some oj->(∀ k f,(k,f)∈acc->rN ops 4 oj k=false->FP.apart f (fps j)=true) /\
      ∀ k,i<=k->k<j->rN ops 4 oj k=false->FP.apart (fps k) (fps j)=true):=by
    intro hw hrest;obtain⟨fps,hc,hp⟩:=Nz (base:=base) m (i+1) acc (ops.drop (i+1)) _ zom rfl (by rw[Cq];show s.nx+1=_;omega) hrest;have hemp:∀ f:FP,FP.apart f ⟨[],[],[]⟩=true:=fun f=>by simp[FP.apart]
    have hemp':∀ f:FP,FP.apart ⟨[],[],[]⟩ f=true:=fun f=>by simp[FP.apart]
    refine⟨fun k=>if k=i then⟨[],[],[]⟩ else fps k,⟨put { s with nx:=base } ops[i].dst (.tup []),⟨ops[i],h0,zC ⟨hw,rfl⟩⟩,?_⟩,fun j oj hj hoj=>?_⟩
    .have e:({ put { s with nx:=s.nx+1 } ops[i].dst (.tup []) with nx:=base }:St)=put { s with nx:=base } ops[i].dst (.tup []):=by cases ops[i].dst<;>rfl
     rw[e]at hc
     have hcong:∀ (m j:Nat) (q:St),i<j->aG P G C ops base fps (fun s'=>K { s' with nx:=base+ops.length }) m j q->aG P G C ops base (fun k=>if k=i then⟨[],[],[]⟩ else fps k) (fun s'=>K { s' with nx:=base+ops.length }) m j q:=by
      intro m
      induction m with
      |zero=>intro j q _ h;exact h
      | succ m ih =>
        intro j q hj ⟨q',hq,h⟩;refine⟨q',?_,ih (j+1) q' zom h⟩;unfold aD at hq ⊢;simp only[zB (show ¬ j=i by omega)];exact hq
     exact hcong m (i+1) _ zom hc
    .by_cases hji:j=i
     .subst hji
      simp only[uA];exact⟨fun k f hm hno=>hemp f,fun k h1 h2=>by omega⟩
     .obtain⟨p1,p2⟩:=hp j oj zom hoj
      simp only[zB hji];refine⟨p1,fun k h1 h2 hno=>?_⟩;by_cases hki:k=i
      .simp only[zE hki];exact hemp' _
      .simp only[zB hki]
       exact p2 k zom h2 hno
   unfold wpOps at h;dsimp only at h
   split at h
   .rename_i hg
    exact run (by unfold wants;rw[hg]) h
   .rename_i j want hg
    split at h
    .rename_i d hd
     split at h
     .rename_i b hb
      by_cases hbw:b=want
      .exact run (by unfold wants;simp only[hg,hd,hb,hbw];simp) (h.1 hbw)
      .have hbw':b=!want:=by cases b<;>cases want<;>simp_all
       exact pass (by unfold wants;simp only[hg,hd,hb,hbw'];cases want<;>rfl) (h.2 hbw')
     .rename_i hb
      exact pass (by unfold wants;simp only[hg,hd,hb]) h
     .exact h.elim
    .exact h.elim
variable {ro:Option Nat} {n:Nat}
def Uy  (hC:COk P G C)  (hf:∀ o∈ops,iN N o=true){o:Oper}(ho:o∈ops){key:Nat}(H:HR E G w A κ s.h s.z)(ht:∀ i,i<N->RV w A κ (s.t i) (a.tmps.getD i undef))(hs:a.tmps.size=N)(hdf:a.defers=df)
 (hn:E.n0<=key) (hk:s.h key=none/\s.z key=false/\κ key=none)  {v:PV} {h':Hp} {z':Fz} (hd:opD P G C key o s fp v h' z') {next:Act->World->Prop} {Q:Exit->Act->World->Prop}
 (hnext:∀ w' A' κ' a',HR E G w' A' κ' h' z'->(∀ i,i<N->RV w' A' κ' ((put { s with h:=h',z:=z' } o.dst v).t i) (a'.tmps.getD i undef))->a'.tmps.size=N->a'.defers=df->(∀ r,r≠key->κ' r=κ r)->next a' w') :
 Oper.wpIn (Wd ro) n P o a w next Q:=by
 refine vWB (s:=s) hC H hn hk.2.2 hk.2.1 hk.1 (Uv H ht (hf o ho)) hd fun w' A' κ' v' h1 h2 h3 h4 h5 h6=>?_
 refine hnext w' A' κ' _ h1 ?_ (J0 hs) (J1 hdf) h4;have:=Jz (dst:=o.dst) (v:=v) (v':=v') hs (Gr (hf o ho)) (Uw h5 h6 h3 ht) h2;intro i hi;have:=this i hi;cases hdst:o.dst<;>simp only[hdst,put]at this ⊢<;>exact this
def vFL  (hC:COk P G C)  (hf:∀ o∈ops,iN N o=true){base:Nat}{fps:Nat->FP}{K:St->Prop}{Q:Exit->Act->World->Prop}(hn:E.n0<=base)
 (hQ:∀ s a w A κ,Rel E G N df { s with nx:=base+ops.length } a w A κ->K s->Q .normal a w) :
 ∀ (fuel:Nat) (listed:Array Bool) (s:St) (a:Act) (w:World) (A:Nat->Prop) (κ:Ka),Gp P G C ops base fps K fuel listed s->HR E G w A κ s.h s.z->(∀ i,i<N->RV w A κ (s.t i) (a.tmps.getD i undef))->a.tmps.size=N->a.defers=df ->
   (∀ i,listed.getD i true=false->s.h (base+i)=none/\s.z (base+i)=false/\κ (base+i)=none)->jT (base+ops.length) κ s.h s.z->listed.size=ops.length ->
   wpAnyIn (Wd ro) n P .any ops.toArray Q fuel listed a w:=by
 intro fuel
 have fin:∀ (s:St) (a:Act) (w:World) (A:Nat->Prop) (κ:Ka),HR E G w A κ s.h s.z->(∀ i,i<N->RV w A κ (s.t i) (a.tmps.getD i undef))->a.tmps.size=N->a.defers=df->jT (base+ops.length) κ s.h s.z->K s->Q .normal a w :=
  fun s a w A κ h1 h2 h3 h4 h5 hK=>hQ s a w A κ ⟨h1,h5,wS hn (Aj _ _),h2,h3,h4⟩ hK
 induction fuel with
 |zero=>intro listed s a w A κ h h1 h2 h3 h4 h5 h6 _;exact⟨h.1,fin s a w A κ h1 h2 h3 h4 h6 h.2⟩
 | succ fuel ih =>
   intro listed s a w A κ h h1 h2 h3 h4 h5 h6 h7;refine⟨fun hr=>fin s a w A κ h1 h2 h3 h4 h6 (h.1 hr),fun i hi=>?_⟩;obtain⟨s',⟨o,hoi,hstep⟩,hany⟩:=h.2 i hi;obtain⟨hun,o',ho',hall⟩:=mem_ready.1 hi;have hmem:=wO hoi;have hlt:i<ops.length:=(xW.1 hoi).1;have hun':listed.getD i true=false:=by simpa using hun
   have hset:∀ j,(listed.setIfInBounds i true).getD j true=false->j≠i/\listed.getD j true=false:=fun j hj=>by
    by_cases e:j=i
    .subst e
     exfalso;have hjs:j<listed.size:=zom
     simp[hjs]at hj
    .rw[getD_set_ne true (fun x=>e x.symm)]at hj
     exact⟨e,hj⟩
   have hsz:(listed.setIfInBounds i true).size=ops.length:=by simp[h7]
   unfold wpOpIn;have hoa:ops.toArray[i]?=some o:=by simpa using hoi
   simp only[hoa];rcases hstep with⟨hw,v,h',z',hd,rfl⟩|⟨hw,rfl⟩
   .rw[zE (by rw[J2 hf h3 h2 hw])]
    obtain⟨l1,l2,l3,_⟩:=Gn hd;refine Uy hC hf hmem h1 h2 h3 h4 (wS hn (Aj _ _)) (h5 i hun') hd fun w' A' κ' a' g1 g2 g3 g4 g5=>?_
    have fr:∀ r,r≠base+i->s.h r=none/\s.z r=false/\κ r=none->h' r=none/\z' r=false/\κ' r=none:=fun r hr ⟨q1,q2,q3⟩=>by
     obtain⟨m1,m2⟩:=l2 r hr q1;refine⟨m1,?_,by rw[g5 r hr];exact q3⟩;rw[l3];simp only[yY,q2,nW];exact contains_false.2 m2
    refine ih _ _ a' w' A' κ' hany (by simpa using g1) g2 g3 g4 (fun j hj=>?_) (fun r hr=>?_) hsz
    .obtain⟨e,hj'⟩:=hset j hj
     have:=fr (base+j) zom (h5 j hj')
     simpa using this
    .have:=fr r zom (h6 r hr)
     simpa using this
   .rw[zB (by rw[J2 hf h3 h2 hw];simp)]
    refine⟨fun _ _=>trivial,ih _ _ _ w A κ hany (by simpa using h1) ?_ (J0 h3) (J1 h4) (fun j hj=>?_) (by simpa using h6) hsz⟩
    .have:=Jz (dst:=o.dst) (v:=.tup []) (v':=undef) h3 (Gr (hf o hmem)) h2 (.tup [] _ rfl (fun i d hd=>by simp at hd))
     intro j hj;have:=this j hj;cases hdst:o.dst<;>simp only[hdst,put]at this ⊢<;>exact this
    .obtain⟨e,hj'⟩:=hset j hj
     simpa using h5 j hj'
def vYV  (h:Region.lexB .any ops.toArray=true):Region.lexFrom .any ops.toArray ops.length 0 (Array.replicate ops.length false)=true:=by
 simp only[Region.lexB,xO]at h
 simpa using h.2
def Uz  (hC:COk P G C)(hm:P.follows .mixedOrders=true){ops:Array Oper}  (hf:∀ o∈ops.toList,iN N o=true)(hB:Region.lexB .any ops=true){K:St->Prop}{Q:Exit->Act->World->Prop}(hR:Rel E G N df s a w A κ)
 (hQ:∀ s a w A κ,Rel E G N df s a w A κ->K s->Q .normal a w) (h:wpOps P G C I true ops.toList 0 [] ops.toList K s):wpAnyIn (Wd ro) n P .any ops Q ops.size (Array.replicate ops.size false) a w.drew:=by
 obtain⟨fps,hc,hp⟩:=Nz (base:=s.nx) ops.toList.length 0 [] ops.toList s zsm rfl rfl h;have hB':Region.lexB .any ops.toList.toArray=true:=by simpa using hB
 have hany:=Uu (P:=P) (G:=G) (C:=C) (base:=s.nx) (K:=fun s'=>K { s' with nx:=s.nx+ops.toList.length }) (fps:=fps) (fun i j oj hij hoj hno=>(hp j oj (z8 _) hoj).2 i (z8 _) hij hno)
  ops.toList.length 0 (Array.replicate ops.toList.length false) { s with nx:=s.nx } zsm (fun j o ho hj=>by rw[show(Array.replicate ops.toList.length false).getD j false=false by simp[Array.getD]]at hj;cases hj) (fun j hj=>by omega) (vYV hB') hc
 have hD:=hR.hr.drew
 have:=vFL (ro:=ro) (n:=n) (P:=P) (G:=G) (N:=N) (df:=df) (K:=fun s'=>K { s' with nx:=s.nx+ops.toList.length }) (E:=E) hC hf hR.n0 (Q:=Q) (fun s' a' w' A' κ' h1 h2=>hQ _ _ _ _ _ h1 h2)
  ops.toList.length (Array.replicate ops.toList.length false) { s with nx:=s.nx } a w.drew A κ hany hD (fun i hi=>(hR.tm i hi).mono (fun _ h=>h) (Jl w A) (fun _ _ h=>h)) hR.size hR.df
  (fun i hi=>hR.fresh (s.nx+i) (Aj _ _)) (fun r hr=>hR.fresh r zom) zsm
 simpa using this
def zKR  (hC:COk P G C)(hm:P.follows .mixedOrders=true){id:Nat}{ops:Array Oper}  (hf:∀ o∈ops.toList,iN N o=true)(hB:Region.lexB .any ops=true){K:St->Prop}{Q:Exit->Act->World->Prop}(hR:Rel E G N df s a w A κ)
 (hQ:∀ s a w A κ,Rel E G N df s a w A κ->K s->Q .normal a w) (h:wpOps P G C I true ops.toList 0 [] ops.toList K s):(Code.region id ops true).wpIn (Wd ro) n P Q a w:=wpIn_region_any hm (Uz hC hm hf hB hR hQ h)
def N7{C:wK}(hC:COk P G C){D:Bool}{ops:List Oper}(hf:∀ o∈ops,iN N o=true){K:St->Prop}{Q:Exit->Act->World->Prop}(hQ:∀ s a w A κ,Rel E G N df s a w A κ->K s->Q .normal a w) :
 ∀ (l:List Oper) (i:Nat) (acc:List (Nat×FP)) (s:St) (a:Act) (w:World) (A:Nat->Prop) (κ:Ka),(∀ o∈l,o∈ops)->Rel E G N df s a w A κ->wpOps P G C (FnH P G) D ops i acc l K s->wpListIn (Wd ro) n P ops.toArray Q l a w
 |[],i,acc,s,a,w,A,κ,_,hR,h=>hQ _ _ _ _ _ hR h
 | o :: rest,i,acc,s,a,w,A,κ,hl,hR,h=>by
   have hmem:=hl o zsm;have ih:=N7 hC (D:=D) hf hQ rest
   have run:wants ops o s.t=some true->uG P G C (FnH P G) D o (fun fp s'=>(D=true->rO ops o fp acc=true)/\wpOps P G C (FnH P G) D ops (i+1) ((i,fp)::acc) rest K s') s ->
    wpListIn (Wd ro) n P ops.toArray Q (o::rest) a w:=by
    intro hw hop;unfold wpListIn;rw[zE (by rw[J2 hf hR.size hR.tm hw])];rcases Ux hop with⟨fp,v,h',z',hd,_,hrest⟩|⟨hD,f,la,hE,hI⟩
    .obtain⟨l1,l2,l3,_⟩:=Gn hd
     refine Uy hC hf hmem hR.hr hR.tm hR.size hR.df hR.n0 (hR.fresh s.nx (zX _)) hd fun w' A' κ' a' g1 g2 g3 g4 g5=>?_
     refine ih (i+1) _ _ a' w' A' κ' (fun o ho=>hl o (by simp[ho])) ⟨by simpa using g1,fun r hr=>?_,by rw[Cq];exact GL hR.n0,?_,g3,g4⟩ hrest
     .rw[Cq]at hr
      have hne:r≠s.nx:=by
       have:s.nx+1<=r:=hr;omega
      obtain⟨q1,q2,q3⟩:=hR.fresh r (by have:s.nx+1<=r:=hr;omega);obtain⟨m1,m2⟩:=l2 r hne q1;refine⟨by simpa using m1,?_,by rw[g5 r hne];exact q3⟩;simp only[aF];rw[l3];simp only[yY,q2,nW];exact contains_false.2 m2
     .have e:∀ j,(put { s with h:=h',z:=z',nx:=s.nx+1 } o.dst v).t j=(put { s with h:=h',z:=z' } o.dst v).t j:=fun j=>by cases o.dst<;>rfl
      intro j hj;rw[e];exact g2 j hj
    .refine vJK hR.hr hR.n0 hR.fresh (Uv hR.hr hR.tm (hf o hmem)) hE hI fun w' A' κ' s' v' pv hK g1 g2 g3 g4 g5 g6 g7=>?_
     refine ih (i+1) _ _ _ w' A' κ' (fun o ho=>hl o (by simp[ho])) ⟨by simpa using g1,by simpa using g2,by rw[Cq];exact wS hR.n0 g3,?_,J0 hR.size,J1 hR.df⟩ hK.2;have:=Jz (dst:=o.dst) (v:=pv) (v':=v') hR.size (Gr (hf o hmem)) (Uw g6 g7 g5 hR.tm) g4;intro j hj;have:=this j hj;cases hdst:o.dst<;>simp only[hdst,put]at this ⊢<;>exact this
   have pass:wants ops o s.t=some false->wpOps P G C (FnH P G) D ops (i+1) acc rest K (put { s with nx:=s.nx+1 } o.dst (.tup []))->wpListIn (Wd ro) n P ops.toArray Q (o::rest) a w:=by
    intro hw hrest;unfold wpListIn;rw[zB (by rw[J2 hf hR.size hR.tm hw];simp)];refine⟨fun _ _=>trivial,ih (i+1) _ _ _ w A κ (fun o ho=>hl o (by simp[ho])) ⟨by simpa using hR.hr,fun r hr=>?_,by rw[Cq];exact GL hR.n0,?_,J0 hR.size,J1 hR.df⟩ hrest⟩
    .rw[Cq]at hr
     have:=hR.fresh r (by have:s.nx+1<=r:=hr;omega)
     simpa using this
    .have:=Jz (dst:=o.dst) (v:=.tup []) (v':=undef) hR.size (Gr (hf o hmem)) hR.tm (.tup [] _ rfl (fun i d hd=>by simp at hd))
     intro j hj;have:=this j hj;cases hdst:o.dst<;>simp only[hdst,put]at this ⊢<;>exact this
   unfold wpOps at h;dsimp only at h
   split at h
   .rename_i hg
    exact run (by unfold wants;rw[hg]) h
   .rename_i j want hg
    split at h
    .rename_i d hd
     split at h
     .rename_i b hb
      by_cases hbw:b=want
      .exact run (by unfold wants;simp only[hg,hd,hb,hbw];simp) (h.1 hbw)
      .have hbw':b=!want:=by cases b<;>cases want<;>simp_all
       exact pass (by unfold wants;simp only[hg,hd,hb,hbw'];cases want<;>rfl) (h.2 hbw')
     .rename_i hb
      exact pass (by unfold wants;simp only[hg,hd,hb]) h
     .exact h.elim
    .exact h.elim
def LeS(G:Gl)(n0:Nat)(s s':St):Prop :=
 ∀ (E:Env) (N:Nat) (df:List Deferred) (a:Act) (w:World) (A:Nat->Prop) (κ:Ka),E.n0=n0->Rel E G N df s a w A κ->∃ A' κ',Rel E G N df s' a w A' κ'
def zOZ{F:Fence}{n:Nat}{P:Program}{c:Code}{Q:Exit->Act->World->Prop}(R:Nat->Act->World->Prop)(round:∀ m a w,R (m+1) a w->c.wpIn F n P (Exit.then (fun a' w'=>R m a' w') Q) a w)
 (zero:∀ a w,¬ R 0 a w) (m:Nat) (a:Act) (w:World) (h:R m a w):(Code.loop c).wpIn F n P Q a w:=by
 intro b k cs hro hb hr
 have key:∀ m a w,R m a w->∃ e a' w',Q e a' w'/\ArrivesIn (Machine.fenced P F) P (lone (b.atR a (.code c::.inLoop c::k)) cs w) b k cs e a' w':=by
  intro m
  induction m with
  |zero=>intro a w h;exact absurd h (zero a w)
  | succ m ih =>
    intro a w h;obtain⟨e,a₁,w₁,hq,harr⟩:=round m a w h b (.inLoop c::k) cs hro hb hr;cases e with
    | normal =>
      obtain⟨e₂,a₂,w₂,hq₂,harr₂⟩:=ih a₁ w₁ hq;exact⟨e₂,a₂,w₂,hq₂,.of_steps (StepsIn.trans harr (.one (fenced_calm hb hr rfl) stepR_inLoop)) harr₂⟩
    |exit id=>exact⟨_,a₁,w₁,hq,.pass (x:=.inLoop c) rfl (fun _ _=>.inl zsm) harr⟩
    |goto l=>exact⟨_,a₁,w₁,hq,.pass (x:=.inLoop c) rfl (fun _ _=>.inl zsm) harr⟩
    |ret=>exact⟨_,a₁,w₁,hq,.pass (x:=.inLoop c) rfl (fun _ _=>.inl zsm) harr⟩
    |panic ch=>exact⟨_,a₁,w₁,hq,.pass (x:=.inLoop c) rfl (fun _ _=>.inl zsm) harr⟩
    |outgrown=>exact⟨_,a₁,w₁,hq,.pass (x:=.inLoop c) rfl (fun _ _=>.inl zsm) harr⟩
 obtain⟨e,a',w',hq,harr⟩:=key m a w h;exact⟨e,a',w',hq,.of_steps (.one (fenced_calm hb hr rfl) stepR_loop) harr⟩
end
open Go.RowKit
variable {l:List Oper}
section
variable {P:Program}
def Qt(T:Act->World->Prop)(Q:Exit->Act->World->Prop):Exit->Act->World->Prop
 |.normal=>T
 |e=>Q e
def J3{k:Nat}{o:Oper}(h:Cm k o=true):(∀ e∈o.after,Region.binds .any e=true->e.on<k)/\∀ j q,o.guard=some (j,q)->j<k:=by
 unfold Cm at h;rw[xO,xZ]at h;refine⟨fun e he hb=>?_,fun j q hg=>?_⟩
 .have:=h.1 e (by simpa using he)
  rw[hb]at this
  simpa [mD]using this
 .have:=h.2
  rw[hg]at this
  simpa [mD]using this
abbrev U0(l:List Oper):Prop:=∀ k o,l[k]?=some o->Cm k o=true
def U4:∀ {l:List Oper} {m:Nat},Gc m l=true->∀ k o,l[k]?=some o->Cm (m+k) o=true
 |[],_,_,k,o,h=>by simp at h
 | x::l,m,h,0,o,h0=>by
   unfold Gc at h;rw[xO]at h;simp at h0;subst h0;exact h.1
 | x::l,m,h,k+1,o,h0=>by
   unfold Gc at h;rw[xO]at h;have:=U4 h.2 k o (by simpa using h0)
   rwa [show m+1+k=m+(k+1) by omega]at this
def vTC  {L:Array Bool}(hs:L.size=l.length)(he:U0 l)(hr:Region.ready .any l.toArray L=[]):∀ k,k<l.length->L.getD k false=true:=by
 intro k
 induction k using Nat.strongRecOn with
 | _ k ih =>
   intro hk;cases h:L.getD k false with
   |true=>rfl
   | false =>
     have h0:l[k]?=some l[k]:=wN hk
     have:k∈Region.ready .any l.toArray L:=mem_ready.2 ⟨by simpa [Array.getD,hs,hk]using h,l[k],by simp[hk],fun e h1 h2=>by
      have:=(J3 (he k _ h0)).1 e h1 h2
      exact ih e.on this zom⟩
     rw[hr]at this;cases this
def U5  {L:Array Bool}(h:∀ k,k<l.length->L.getD k false=true):Region.ready .any l.toArray L=[]:=by
 cases hr:Region.ready .any l.toArray L with
 |nil=>rfl
 | cons i r =>
   have hi:i∈Region.ready .any l.toArray L:=by rw[hr];simp
   obtain⟨h1,o,h2,_⟩:=mem_ready.1 hi;have hlt:i<l.length:=by simpa using (kH.1 h2).1
   have:=h i hlt;by_cases hs:i<L.size
   .simp[Array.getD,hs]at h1 this;rw[h1]at this;cases this
   .simp[Array.getD,hs]at this
def uH4{F:Fence}{n:Nat}  {o:Oper}{T:Act->World->Prop}{Q:Exit->Act->World->Prop}(hg:o.guard=none)(he:U0 l)(ho:Cm l.length o=true)(hw:∀ k,k<l.length->rN l 4 o k=true)
 (hT:∀ a w,T a w->o.wpIn F n P a w (Q .normal) Q):∀ (fuel:Nat) (L:Array Bool) (a:Act) (w:World),L.size=l.length->ET l L->wpAnyIn F n P .any l.toArray (Qt T Q) fuel L a w->wpAnyIn F n P .any (l++[o]).toArray Q (fuel+1) (L.push false) a w:=by
 have old:∀ (L:Array Bool) (i:Nat),i<L.size->(L.push false).getD i false=L.getD i false:=fun L i hi=>by simp[Array.getD,hi,GK hi,M7 hi]
 have edge:∀ (L:Array Bool),L.size=l.length->∀ o':Oper,((∀ e∈o'.after,Region.binds .any e=true->(L.push false).getD e.on false=true)->∀ e∈o'.after,Region.binds .any e=true->L.getD e.on false=true):=fun L hs o' h e h1 h2=>by
  have:=h e h1 h2;by_cases hi:e.on<L.size
  .rw[old L _ hi]at this;exact this
  .by_cases e1:e.on=L.size
   .simp[Array.getD,e1]at this
   .simp[Array.getD,show ¬ e.on<L.size+1 by omega]at this
 intro fuel
 induction fuel with
 |zero=>?_
 |succ fuel ih=>?_
 all_goals intro L a w hs hc h
 all_goals
  have hd:Region.ready .any l.toArray L=[]->T a w:=by first|exact fun _=>h.2|exact h.1
  have last:l.length∈Region.ready .any (l++[o]).toArray (L.push false)->T a w:=fun hi=>hd (U5 fun k hk=>by
   obtain⟨_,o',h2,h3⟩:=mem_ready.1 hi;have:o'=o:=by simpa using h2.symm
   subst this
   exact Jy hc 4 o' (edge L hs o' h3) (hw k hk))
  have some_ready:Region.ready .any (l++[o]).toArray (L.push false)≠[]:=fun e=>by
   have hr:Region.ready .any l.toArray L=[]:=by
    cases hr:Region.ready .any l.toArray L with
    |nil=>rfl
    | cons i r =>
      have hi:i∈Region.ready .any l.toArray L:=by rw[hr];simp
      obtain⟨h1,o',h2,h3⟩:=mem_ready.1 hi;have hlt:i<l.length:=by simpa using (kH.1 h2).1
      have:i∈Region.ready .any (l++[o]).toArray (L.push false):=mem_ready.2 ⟨by simpa [Array.getD,hs,hlt,GK hlt,M7 (show i<L.size by omega)]using h1,o',by simpa [o9 hlt]using h2,fun e q1 q2=>by
       have hlt2:=(J3 (he i o' (by simpa using h2))).1 e q1 q2
       rw[old L _ zom];exact h3 e q1 q2⟩
      rw[e]at this;cases this
   have al:=vTC hs he hr
   have:l.length∈Region.ready .any (l++[o]).toArray (L.push false):=mem_ready.2 ⟨by simp[Array.getD,<- hs],o,zsm,fun e q1 q2=>by
    have hlt2:=(J3 ho).1 e q1 q2
    rw[old L _ zom];exact al _ hlt2⟩
   rw[e]at this;cases this
  have fin:∀ m,T a w->l.length∈Region.ready .any (l++[o]).toArray (L.push false)->wpOpIn F n P (l++[o]).toArray Q l.length (wpAnyIn F n P .any (l++[o]).toArray Q m ((L.push false).setIfInBounds l.length true)) a w:=fun m ht hi=>by
   have al:∀ k,k<l.length->L.getD k false=true:=fun k hk=>by
    obtain⟨_,o',h2,h3⟩:=mem_ready.1 hi;have:o'=o:=by simpa using h2.symm
    subst this;exact Jy hc 4 o' (edge L hs o' h3) (hw k hk)
   have hr:Region.ready .any (l++[o]).toArray ((L.push false).setIfInBounds l.length true)=[]:=U5 fun k hk=>by
    by_cases e:k=l.length
    .subst e;simp[Array.getD,<- hs]
    .have hk':k<l.length:=by simp at hk;omega
     have:=al k hk';rw[getD_set_ne false (fun e'=>e e'.symm),old L _ zom];exact this
   unfold wpOpIn;simp only[EA,kG (zX _),EK,List.getElem?_cons_zero];rw[zE (by simp[Region.wanted,hg])];refine Oper.wpIn_mono (fun a w hq=>?_) (hT a w ht);cases m with
   |zero=>exact⟨hr,hq⟩
   |succ m=>exact⟨fun _=>hq,fun i hi=>by rw[hr]at hi;cases hi⟩
  refine⟨fun e=>absurd e some_ready,fun i hi=>?_⟩;by_cases e:i=l.length
  .subst e;exact fin _ (last hi) hi
  obtain⟨h1,o',h2,h3⟩:=mem_ready.1 hi
  have hlt:i<l.length:=by
   have:=(kH.1 h2).1;simp at this;omega
  have h2':l[i]?=some o':=by simpa [o9 hlt]using h2
  have hi':i∈Region.ready .any l.toArray L:=mem_ready.2 ⟨by simpa [Array.getD,hs,hlt,GK hlt,M7 (show i<L.size by omega)]using h1,o',by simpa using h2',edge L hs o' h3⟩
 .rw[h.1]at hi';cases hi'
 .have hop:=h.2 i hi'
  have es:(L.push false).setIfInBounds i true=(L.setIfInBounds i true).push false:=by
   apply Array.ext_getElem?;intro j;have hlt':i<L.size:=zom
   simp only[Array.getElem?_setIfInBounds,Array.getElem?_push,Array.size_push,Array.size_setIfInBounds];by_cases e1:i=j
   .subst e1
    rw[zE rfl,zE rfl,zE zom,zE hlt',zB zom]
   .rw[zB e1,zB e1]
  rw[es];unfold wpOpIn at hop ⊢;simp only[EA,h2',o9 hlt]at hop ⊢
  have ew:Region.wanted o' (yielded (l++[o]).toArray a.tmps)=Region.wanted o' (yielded l.toArray a.tmps):=by
   unfold Region.wanted;cases hgo:o'.guard with
   |none=>rfl
   | some q =>
     have:=(J3 (he i o' h2')).2 q.1 q.2 hgo;simp only[yielded,EA,o9 (show q.1<l.length by omega)]
  rw[ew];have ih':=fun a w=>ih (L.setIfInBounds i true) a w (by simp[hs]) (Nw hc hi')
  split
  .rename_i hw'
   rw[zE hw']at hop;exact Oper.wpIn_mono ih' hop
  .rename_i hw'
   rw[zB hw']at hop;exact⟨hop.1,ih' _ _ hop.2⟩
end
section
variable {P:Program} {E:Env} {G:Gl} {N:Nat} {df:List Deferred} {w:World} {A:Nat->Prop} {κ:Ka} {s:St} {a:Act} {ro:Option Nat} {n:Nat}
def zKQ{C:wK}(hC:COk P G C)(hm:P.follows .mixedOrders=true){id:Nat}  {o:Oper}(hf:∀ x∈l++[o],iN N x=true){K:St->Prop}{Q:Exit->Act->World->Prop}(hR:Rel E G N df s a w A κ)
 (hQ:∀ s a w A κ,Rel E G N df s a w A κ->K s->Q .normal a w) (ht:Jk l o=true) (h:wpOps P G C (FnH P G) true l 0 [] l (fun s'=>uG P G C (FnH P G) false o (fun _ s''=>K s'') s') s):(Code.region id (l++[o]).toArray true).wpIn (Wd ro) n P Q a w:=by
 unfold Jk at ht;simp only[xO,xZ,yN]at ht;obtain⟨t1,t2,t3,t4,t5⟩:=ht;have hg:o.guard=none:=by simpa using t2
 let T:Act->World->Prop:=fun a w=>∃ s A κ,Rel E G N df s a w A κ/\uG P G C (FnH P G) false o (fun _ s''=>K s'') s
 have h1:=Uz (ro:=ro) (n:=n) hC hm (ops:=l.toArray) (fun x hx=>hf x (by simp at hx;simp[hx])) t1 hR (Q:=Qt T Q) (fun s a w A κ hR hK=>⟨s,A,κ,hR,hK⟩) (by simpa using h)
 have hT:∀ a w,T a w->o.wpIn (Wd ro) n P a w (Q .normal) Q:=fun a w ⟨s,A,κ,hR,hK⟩=>by
  have:=N7 (ro:=ro) (n:=n) hC (D:=false) (ops:=[o]) (fun x hx=>hf x (by simp at hx;simp[hx])) (Q:=Q) hQ [o] 0 [] s a w A κ (fun _ h=>h) hR (by
   unfold wpOps;simp only[hg];refine Gf FnH.mono (fun fp s h=>?_) hK
   exact⟨fun e=>(by cases e),h⟩)
  unfold wpListIn at this;rw[zE (by simp[Region.wanted,hg])]at this;exact this
 refine wpIn_region_any hm ?_;have e1:(l++[o]).toArray.size=l.length+1:=by simp
 have:=uH4 (P:=P) hg (fun k o h=>by have:=U4 t4 k o h;rwa [z7]at this) t3 t5 hT l.length (Array.replicate l.length false) a w.drew zsm (fun j x hx hj=>by rw[show(Array.replicate l.length false).getD j false=false by simp[Array.getD]]at hj;cases hj) (by simpa using h1);rw[e1,show Array.replicate (l.length+1) false=(Array.replicate l.length false).push false from Array.replicate_succ];exact this
end
open Go.RowKit
variable {a:Act}{c:Code}
section
variable {P:Program} {G:Gl} {N:Nat}
def EU{b:Frame}  {k:List Item}{cs:List Frame}{w:World}  : step P (lone (b.atR a (.code (.scope c)::k)) cs w)=.next (lone (b.atR a (.code c::.inScope c::k)) cs w) :=
 step_lone_go (by simp[stepG,stepG.exec,Frame.atR])
def zO0{b:Frame}  {k:List Item}{cs:List Frame}{w:World}  : step P (lone (b.atR a (.inScope c::k)) cs w)=.next (lone (b.atR a k) cs w) :=
 step_lone_go (by simp[stepG,stepG.exec,Frame.atR])
def uN4(Q:Exit->Act->World->Prop):Exit->Act->World->Prop
 |.goto _,_,_=>False
 |e,a,w=>Q e a w
def vK3{F:Fence}{n:Nat}{Q:Exit->Act->World->Prop}  {w:World}  (h:c.wpIn F n P (uN4 Q) a w):(Code.scope c).wpIn F n P Q a w:=by
 intro b k cs hro hb hr;have h0:(lone (b.atR a (.code (.scope c)::k)) cs w).fenced P F:=fenced_calm hb hr rfl;obtain⟨e,a₁,w₁,hq,harr⟩:=h b (.inScope c::k) cs hro hb hr;cases e with
 |normal=>exact⟨.normal,a₁,w₁,hq,.head h0 EU (StepsIn.trans harr (.one (fenced_calm hb hr rfl) zO0))⟩
 | exit id' =>
   have hx:exitTo id' (.inScope c::k)=exitTo id' k:=by simp[exitTo]
   exact⟨.exit id',a₁,w₁,hq,fun k' hk=>.head h0 EU (harr.1 k' (by rw[hx];exact hk)),
    fun hr' hk=>let ⟨k₁,h1,h2⟩:=harr.2 hr' (by rw[hx];exact hk);⟨k₁,h1,.head h0 EU h2⟩⟩
 |goto l=>exact hq.elim
 |ret=>exact⟨_,a₁,w₁,hq,.of_steps (.one h0 EU) harr⟩
 |panic ch=>exact⟨_,a₁,w₁,hq,.of_steps (.one h0 EU) harr⟩
 |outgrown=>exact⟨_,a₁,w₁,hq,.of_steps (.one h0 EU) harr⟩
def dS{C:wK}(hm:P.follows .mixedOrders=true)(hC:COk P G C){E:Env}:∀ (c:Code) (ro:Option Nat) (n:Nat) (n0:Nat) (_:E.n0=n0) (df:List Deferred)
 (Q:Exit->St->Prop) (s:St) (a:Act) (w:World) (A:Nat->Prop) (κ:Ka),mF N c=true->Rel E G N df s a w A κ->wp P G C (FnH P G) (LeS G,n0) c Q s ->
 c.wpIn (Wd ro) n P (fun e a' w'=>∃ s' A' κ',Rel E G N df s' a' w' A' κ'/\Q e s') a w
 |.skip,_,_,_,_,_,Q,s,a,w,A,κ,_,hR,h=>wpIn_skip ⟨s,A,κ,hR,h⟩
 |.label _,_,_,_,_,_,Q,s,a,w,A,κ,_,hR,h=>wpIn_label ⟨s,A,κ,hR,h⟩
 |.exit id,_,_,_,_,_,Q,s,a,w,A,κ,_,hR,h=>wpIn_exit ⟨s,A,κ,hR,h⟩
 |.ret,_,_,_,_,_,Q,s,a,w,A,κ,_,hR,h=>wpIn_ret ⟨s,A,κ,hR,h⟩
 | .seq x y,ro,n,n0,hn,df,Q,s,a,w,A,κ,hf,hR,h=>by
   simp only[mF,xO]at hf;refine wpIn_seq (wpIn_mono (dS hm hC x ro n n0 hn df _ s a w A κ hf.1 hR h) fun e a' w' ⟨s',A',κ',hR',hq⟩=>?_);cases e with
   | normal =>
     unfold tX at hq;obtain⟨s0,hle,hq⟩:=hq;obtain⟨A0,κ0,hR0⟩:=hle E N df a' w' A' κ' hn hR';exact dS hm hC y ro n n0 hn df Q s0 a' w' A0 κ0 hf.2 hR0 hq
   |_=>unfold tX at hq;exact⟨s',A',κ',hR',hq⟩
 | .cond c x y,ro,n,n0,hn,df,Q,s,a,w,A,κ,hf,hR,h=>by
   simp only[mF,xO]at hf;unfold wp at h
   split at h
   .rename_i b hb
    have hc:RV w A κ (ev G s.t c) (a.eval c):=by exact Ny hR.hr hR.tm hf.1
    rw[hb]at hc;exact wpIn_cond_split hc.bool_inv (fun e=>dS hm hC x ro n n0 hn df Q s a w A κ hf.2.1 hR (h.1 e)) (fun e=>dS hm hC y ro n n0 hn df Q s a w A κ hf.2.2 hR (h.2 e))
   .rename_i hb
    have hc:RV w A κ (ev G s.t c) (a.eval c):=by exact Ny hR.hr hR.tm hf.1
    rw[hb]at hc;obtain⟨b,hc⟩:=hc.anyb_inv;exact wpIn_cond_split hc (fun _=>dS hm hC x ro n n0 hn df Q s a w A κ hf.2.1 hR h.1) (fun _=>dS hm hC y ro n n0 hn df Q s a w A κ hf.2.2 hR h.2)
   .exact h.elim
 | .block id c,ro,n,n0,hn,df,Q,s,a,w,A,κ,hf,hR,h=>by
   refine wpIn_block (wpIn_mono (dS hm hC c ro n n0 hn df _ s a w A κ hf hR h) fun e a' w' ⟨s',A',κ',hR',hq⟩=>?_);cases e with
   | exit id' =>
     simp only[Exit.inBlock,dO]at hq ⊢
     split
     .rename_i e;rw[zE e]at hq;exact⟨s',A',κ',hR',hq⟩
     .rename_i e;rw[zB e]at hq;exact⟨s',A',κ',hR',hq⟩
   |_=>exact⟨s',A',κ',hR',hq⟩
 | .loop c,ro,n,n0,hn,df,Q,s,a,w,A,κ,hf,hR,h=>by
   unfold wp at h;obtain⟨s0,h0,m,h⟩:=h
   obtain⟨A0,κ0,hR0⟩:∃ A' κ',Rel E G N df s0 a w A' κ':=by
    obtain⟨A',κ',hR'⟩:=h0 E N df a w A κ hn hR;exact⟨A',κ',hR'⟩
   have key:∀ m s a w A κ,Rel E G N df s a w A κ->Nat.rec (motive:=fun _=>St->Prop) (fun _=>False) (fun _ ih s=>wp P G C (FnH P G) (LeS G,n0) c (nG (fun s'=>∃ s'',LeS G n0 s' s''/\ih s'') Q) s) m s ->
    (Code.loop c).wpIn (Wd ro) n P (fun e a' w'=>∃ s' A' κ',Rel E G N df s' a' w' A' κ'/\Q e s') a w:=by
    intro m s a w A κ hR h
    refine zOZ (fun m a w=>∃ s A κ,Rel E G N df s a w A κ/\Nat.rec (motive:=fun _=>St->Prop) (fun _=>False) (fun _ ih s=>wp P G C (FnH P G) (LeS G,n0) c (nG (fun s'=>∃ s'',LeS G n0 s' s''/\ih s'') Q) s) m s)
     (fun m a w ⟨s,A,κ,hR,h⟩=>?_) (fun a w ⟨s,A,κ,hR,h⟩=>h) m a w ⟨s,A,κ,hR,h⟩
    refine wpIn_mono (dS hm hC c ro n n0 hn df _ s a w A κ hf hR h) fun e a' w' ⟨s',A',κ',hR',hq⟩=>?_
    cases e with
    | normal =>
      obtain⟨s'',hle,hrec⟩:=hq;obtain⟨A'',κ'',hR''⟩:=hle E N df a' w' A' κ' hn hR';have hR'':Rel E G N df s'' a' w' A'' κ'':=hR'';exact⟨s'',A'',κ'',hR'',hrec⟩
    |_=>exact⟨s',A',κ',hR',hq⟩
   exact key m s0 a w A0 κ0 hR0 h
 | .region id ops D,ro,n,n0,hn,df,Q,s,a,w,A,κ,hf,hR,h=>by
   simp only[mF,xO,xZ,kN,bV]at hf;cases D with
   |false=>exact wpIn_region_list (by
    have:=N7 hC (D:=false) (ro:=ro) (n:=n) (Q:=fun e a' w'=>∃ s' A' κ',Rel E G N df s' a' w' A' κ'/\Q e s') hf.1 (fun s a w A κ hR hK=>⟨s,A,κ,hR,hK⟩) ops.toList 0 [] s a w A κ (fun o ho=>ho) hR (h.resolve_right fun h=>(by cases h.1))
    simpa using this)
   | true =>
     have hl:=hf.2.resolve_left zsm;rcases h with h|⟨_,l,o,e,ht,h⟩
     .exact zKR hC hm hf.1 hl hR (fun s a w A κ hR hK=>⟨s,A,κ,hR,hK⟩) h
     .have e':ops=(l++[o]).toArray:=by rw[<- e]
      subst e';exact zKQ hC hm (by simpa using hf.1) hR (fun s a w A κ hR hK=>⟨s,A,κ,hR,hK⟩) ht h
 |.rangeFunc ..,_,_,_,_,_,_,_,_,_,_,_,_,_,h=>h.elim
 | .scope c,ro,n,n0,hn,df,Q,s,a,w,A,κ,hf,hR,h=>by
   refine vK3 (wpIn_mono (dS hm hC c ro n n0 hn df _ s a w A κ hf hR h) fun e a' w' ⟨s',A',κ',hR',hq⟩=>?_);cases e with
   |goto l=>exact hq.elim
   |_=>exact⟨s',A',κ',hR',hq⟩
 |.goto _,_,_,_,_,_,_,_,_,_,_,_,_,_,h=>h.elim
 |.refuse _,_,_,_,_,_,_,_,_,_,_,_,_,_,h=>h.elim
end
open Go.RowKit
variable {fn:Func}{c:Code}{rs:List ResultVar}{ds:List PV}
def iO(ds:List PV):Tm:=fun i=>ds.getD i (.tup [])
def EW(P:Program)(s:St):ResultVar->Option PV
 |.tmp t=>some (s.t t)
 | .cell x ty=>match s.t x with
   | .ptr r j off=>(match s.h r with
     | some b=>(match b.els[j]? with
       |some e=>part e off (zK P ty).size (zK P ty).agg
       |none=>none)
     |none=>none)
   |_=>none
def iP(P:Program)(s:St):List ResultVar->Option (List PV)
 |[]=>some []
 | r::rs=>match EW P s r,iP P s rs with
   |some v,some vs=>some (v::vs)
   |_,_=>none
def BI(P:Program)(rs:List ResultVar)(s:St):Option PV :=
 match iP P s rs with
 |some [v]=>some v
 |some vs=>some (.tup vs)
 |none=>none
def BJ(N:Nat):ResultVar->Bool
 |.tmp t=>decide (t<N)
 |.cell x _=>decide (x<N)
def aH(P:Program)(rs:List ResultVar)(K:PV->St->Prop):Exit->St->Prop
 |.normal,s|.ret,s=>∃ v,BI P rs s=some v/\K v s
 |_,_=>False
section
variable {P:Program} {E:Env} {G:Gl} {N:Nat} {df:List Deferred} {w:World} {A:Nat->Prop} {κ:Ka} {s:St} {a:Act}
def vIV (hR:Rel E G N df s a w A κ) {r:ResultVar} {v:PV} (hf:BJ N r=true) (h:EW P s r=some v) :
 ∃ u,(match r with|.tmp t=>(pure (a.tmps.getD t undef):Sem Value)|.cell x ty=>(do loadVar ty (<- asAddr (a.tmps.getD x undef)))).run P w=.ok u w/\RV w A κ v u:=by
 cases r with
 | tmp t =>
   simp only[EW]at h;cases h
   exact⟨_,rfl,hR.tm t (by simpa [BJ]using hf)⟩
 | cell x ty =>
   have hx:=hR.tm x (by simpa [BJ]using hf);simp only[EW]at h
   split at h
   .rename_i r j off hev
    rw[hev]at hx;obtain⟨m,sz,cap,hρ,hk⟩:=hx.ptr_inv
    split at h
    .rename_i b hb
     split at h
     .rename_i e hel
      obtain⟨m',cap',hk',_,hc⟩:=hR.hr.read hb (by rw[hk];simp) hel;rw[hk]at hk';cases hk'
      have hz:(zK P ty).size≠0\/(zK P ty).agg=true:=by
       rcases Gg h with⟨h,_⟩|⟨_,h,_⟩
       .exact zC h
       .left;omega
      obtain⟨v',h1,h2⟩:=UH h hc hz;exact⟨v',by simp only[hρ,asAddr,Sem.run_bind];exact h1,h2⟩
     .cases h
    .cases h
   .cases h
def J4(tmps:Array Value):ResultVar->Sem Value
 |.tmp t=>pure (tmps.getD t undef)
 |.cell a t=>do loadVar t (<- asAddr (tmps.getD a undef))
def N8(hR:Rel E G N df s a w A κ):∀ (rs:List ResultVar) (vs:List PV),rs.all (BJ N)=true->iP P s rs=some vs->∃ us:List Value,(rs.mapM (J4 a.tmps)).run P w=.ok us w/\RVs w A κ vs us
 |[],vs,_,h=>by simp[iP]at h;subst h;exact⟨[],rfl,rfl,fun i d hd=>by simp at hd⟩
 | r::rs,vs,hf,h=>by
   simp only[List.all_cons,xO]at hf;simp only[iP]at h
   split at h
   .rename_i v vs' h1 h2
    cases h
    obtain⟨u,hu,hru⟩:=vIV hR hf.1 h1;obtain⟨us,hus,hrs⟩:=N8 hR rs vs' hf.2 h2;have hu':(J4 a.tmps r).run P w=.ok u w:=by cases r<;>exact hu
    refine⟨u::us,by simp[List.mapM_cons,hu',hus],by simp[hrs.1],fun i d hd=>?_⟩;cases i with
    |zero=>simp at hd;subst hd;simpa using hru
    |succ i=>have:=hrs.2 i d (by simpa using hd);simpa using this
   .cases h
def vFK  (hR:Rel E G N df s a w A κ)  (hrs:fn.results=rs.toArray){v:PV}(hf:rs.all (BJ N)=true)(h:BI P rs s=some v):∃ u,(results fn a.tmps).run P w=.ok u w/\RV w A κ v u:=by
 have key:∀ us:List Value,(rs.mapM (J4 a.tmps)).run P w=.ok us w->(results fn a.tmps).run P w=.ok (if h:us.toArray.size=1 then us.toArray[0] else .tuple us.toArray) w:=by
  intro us hus
  have e:results fn a.tmps=(do let vs <- fn.results.mapM (J4 a.tmps);pure (if h:vs.size=1 then vs[0] else .tuple vs)):=by
   unfold results
   congr 1
  rw[e,hrs];simp only[List.mapM_toArray,Sem.run_bind];simp[hus]
 unfold BI at h
 split at h
 .rename_i v' hv
  cases h
  obtain⟨us,hus,hr⟩:=N8 hR rs _ hf hv
  obtain⟨u,rfl⟩:∃ u,us=[u]:=by
   match us,hr.1 with
   |[u],_=>exact⟨u,rfl⟩
  refine⟨u,by rw[key _ hus];simp,?_⟩
  simpa using hr.2 0 v rfl
 .rename_i vs hne hv
  cases h
  obtain⟨us,hus,hr⟩:=N8 hR rs _ hf hv
  have hl:us.toArray.size≠1:=by
   intro h1;have:vs.length=1:=by have:=hr.1;simp at h1;omega
   match vs,this with
   |[x],_=>exact hne x rfl
  refine⟨.tuple us.toArray,by rw[key _ hus,dif_neg hl],.tup _ _ (by simpa using hr.1.symm) fun i d hd=>?_⟩;have:=hr.2 i d hd
  simpa [o8,List.getD]using this
 .cases h
def uGD  {vs:List Value}(h:RVs w A κ ds vs){nt:Nat}(hn:ds.length<=nt) :
 (vs.toArray++Array.replicate (nt-vs.toArray.size) undef).size=nt/\∀ i,i<nt->RV w A κ (iO ds i) ((vs.toArray++Array.replicate (nt-vs.toArray.size) undef).getD i undef):=by
 have hl:=h.1;refine⟨by simp;omega,fun i hi=>?_⟩;unfold iO;by_cases h1:i<ds.length
 .have h2:=h.2 i ds[i] (wN h1)
  have h3:i<vs.length:=zom
  have e1:ds.getD i (.tup [])=ds[i]:=by simp[List.getD,h1]
  rw[e1]
  have e2:(vs.toArray++Array.replicate (nt-vs.toArray.size) undef).getD i undef=vs.getD i undef:=by
   simp only[o8];rw[Ms (by simpa using h3)];simp[List.getD]
  rw[e2];exact h2
 .have e1:ds.getD i (.tup [])=.tup []:=by simp[List.getD,CS (Cb h1)]
  rw[e1];have h3:¬ i<vs.length:=zom
  have e2:(vs.toArray++Array.replicate (nt-vs.toArray.size) undef).getD i undef=undef:=by
   simp only[o8];rw[Array.getElem?_append_right yE];by_cases h4:i-vs.toArray.size<nt-vs.toArray.size
   .simp only[NN]at h4
    simp[Tx,h4]
   .simp only[NN]at h4
    simp[Tx,h4]
  rw[e2];exact .tup [] _ rfl (fun i d hd=>by simp at hd)
structure FnOk(P:Program)(f:FuncId)(fn:Func)(c:Code)(rs:List ResultVar)(nt:Nat):Prop where
 hf:P.funcs[f]?=some fn
 hb:fn.body=some c
 hn : fn.name ≠ "runtime.NumGoroutine"
 ht:fn.ntmps=nt
 hr:fn.results=rs.toArray
 fits:mF nt c=true
 rfits:rs.all (BJ nt)=true
def FnOk.callable{f:FuncId}{fn:Func}{c:Code}{rs:List ResultVar}{nt:Nat}(h:FnOk P f fn c rs nt):callable P f=true:=by
 simp[Go.PI.callable,h.hf,h.hb,h.hn]
def EX(hm:P.follows .mixedOrders=true){f:FuncId}    {nt:Nat}(ok:FnOk P f fn c rs nt)  (hl:ds.length<=nt){K:PV->St->Prop}{s:St}
 (h:wp P G (FnC P G) (FnH P G) (LeS G,s.nx) c (aH P rs K) { s with t:=iO ds }):FnH P G f ds K s:=by
 refine⟨ok.callable,fun E w A κ vs h1 h2 h3 h4 h5 h6 h7=>?_⟩;refine(callsIn_wd (ro:=none) (n:=0)).1 (callsIn_of_wp ok.hf ok.hb trivial ?_);rw[ok.ht];obtain⟨hsz,htm⟩:=uGD h7 hl;refine wpIn_mono (dS hm (fun _ _ _ h=>h) c none 0 s.nx h1 [] _ { s with t:=iO ds } _ w A κ ok.fits ⟨h5,h6,GZ h1,htm,hsz,rfl⟩ h) fun e a' w' ⟨s',A',κ',hR',hq⟩=>?_
 cases e<;>first
  |exact hq.elim
  | (obtain⟨v,hv,hK⟩:=hq
     obtain⟨u,hu,hru⟩:=vFK hR' ok.hr ok.rfits hv
     exact⟨hR'.df,u,hu,u,v,A',κ',s',rfl,hR'.hr,hR'.fresh,by rw[<- h1];exact hR'.n0,hru,hK⟩)
def start(ds:List PV):St:={ t:=iO ds,h:=fun _=>none,z:=fun _=>false,nx:=0 }
def uFT{A:Nat->Prop}(hA:∀ b,A b->b<w.heap.size)(hg:Gok G w A):HR { w0:=w,w1:=w,B:=w.heap.size,A0:=A,n0:=0,κ0:=fun _=>none,kw:=w } G w A (fun _=>none) (fun _=>none) (fun _=>false) :=
 ⟨Below.refl _ _,zX _,hA,fun _ h=>h,fun _ h=>zF h,fun _ _ _=>rfl,fun r hr=>(by cases hr),hg,fun r m sz cap hr=>(by cases hr),⟨fun r b m sz cap hr=>(by cases hr),Below.refl _ _,fun b hb=>hb.elim,fun b hb=>hb.elim⟩,fun r b hr=>(by cases hr),fun r r' b b' m m' s s' c c' hne hr=>(by cases hr)⟩
def U6(hm:P.follows .mixedOrders=true){f:FuncId}    {nt:Nat}(ok:FnOk P f fn c rs nt)  (hl:ds.length<=nt){K:PV->St->Prop}
 (h:wp P G (FnC P G) (FnH P G) (LeS G,0) c (aH P rs K) (start ds)) {w:World} {A:Nat->Prop} {vs:List Value} (hA:∀ b,A b->b<w.heap.size) (hg:Gok G w A) (hd:RDs w A ds vs) :
 Calls P f vs.toArray w fun e w'=>∃ v pv A' κ' s',e=.returned v/\HR { w0:=w,w1:=w,B:=w.heap.size,A0:=A,n0:=0,κ0:=fun _=>none,kw:=w } G w' A' κ' s'.h s'.z/\RV w' A' κ' pv v/\K pv s':=by
 have:=(EX hm ok hl (K:=K) (s:=start ds) h).2 _ w A (fun _=>none) vs rfl rfl rfl rfl (uFT hA hg) (fun r _=>⟨rfl,rfl,rfl⟩) ⟨hd.1,fun i d hi=>.data _ _ (hd.2 i d hi)⟩;exact this.mono fun e w' ⟨v,pv,A',κ',s',h1,h2,_,_,h5,h6⟩=>⟨v,pv,A',κ',s',h1,h2,h5,h6⟩
def U7(hm:P.follows .mixedOrders=true){f:FuncId}    {nt:Nat}(ok:FnOk P f fn c rs nt)  (hl:ds.length<=nt){d:PV}
 (h:wp P G (FnC P G) (FnH P G) (LeS G,0) c (aH P rs fun v s=>∃ ks,frz s.h 4 v=some (d,ks)) (start ds)):FnC P G f ds (.data d):=by
 refine⟨ok.callable,fun w A vs hA hg hd=>(U6 hm ok hl h hA hg hd).mono fun e w' ⟨v,pv,A',κ',s',h1,h2,h3,ks,h4⟩=>⟨v,h1,h2.bel,?_⟩⟩;have hf:=h2.freeze (Gh 4 pv d ks h4);have:=ER h2 (A':=fun b=>A' b\/tY κ' ks b) (fun b hb=>zF hb) 4 pv d v ks h4 h3 (fun b hb=>zC hb)
 exact this.mono (fun b hb=>by
  rcases hf.a1 b hb with h|h
  .exact zF h
  .exact zC ⟨h,hf.alt b hb⟩) (fun _ _ _=>rfl)
def zOY(hm:P.follows .mixedOrders=true){f:FuncId}    {nt:Nat}(ok:FnOk P f fn c rs nt)  (hl:ds.length<=nt){els:List PV}{sz:Nat}{agg:Bool}(hd1:sz≠0)
 (h:wp P G (FnC P G) (FnH P G) (LeS G,0) c (aH P rs fun v s=>(v=.nilsl/\els=[])\/∃ r b ks,v=.own r 0 els.length/\s.h r=some b/\b.sz=sz/\b.agg=agg/\b.els.length=els.length/\s.z r=false/\zZ (frz s.h 4) b.els=some (els,ks)/\ks.contains r=false) (start ds)) :
 FnC P G f ds (.fresh els sz agg):=by
 refine⟨ok.callable,fun w A vs hA hg hd=>(U6 hm ok hl h hA hg hd).mono fun e w' ⟨v,pv,A',κ',s',h1,h2,h3,hq⟩=>⟨v,h1,h2.bel,hd1,?_⟩⟩;rcases hq with⟨hpv,he⟩|⟨r,b,ks,hpv,hb,hsz,hagg,hlen,hz,hfr,hks⟩
 .subst hpv he
  rw[h3.nilsl_inv];exact⟨none,0,rfl,zX _,fun e he=>(by cases he),zF rfl⟩
 subst hpv;rw[<- hsz,<- hagg];have hf:=h2.freeze (dQ hfr);obtain⟨m,sz',cap,a,rfl,hκ,hle,ha⟩:=h3.own_inv;obtain⟨m0,cap0,e1,e2,e3,e4⟩:=h2.blk r b hb (by rw[hκ];simp);rw[hκ]at e1;cases e1;obtain⟨g1,g2⟩:=kP hfr;refine⟨a,cap,zsm,zom,fun e he=>?_,?_⟩
 .obtain⟨i,hi,rfl⟩:=uE he
  obtain⟨x,ks1,q1,q2,q3⟩:=g2 i _ (wN hi);obtain⟨c1,c2,_⟩:=Cn q2;have:=e3 x (wO q1);exact⟨by rw[c1];exact this.1,by rw[c2];exact this.2⟩
 .by_cases hc0:cap=0
  .exact zF hc0
  .obtain⟨c',ty,f1,f2,f3,f4,f5,f6,f7⟩:=(e4.resolve_left hc0).resolve_left fun e=>hd1 (hsz ▸ e.1.2.1)
   have f1:=f1.1;have ha':=ha.resolve_right hc0;subst ha'
   have hmA:¬ (A' m\/tY κ' ks m):=by
    rintro(h|⟨r',hr',sz',cap',hκ',hc'⟩)
    .exact f6 hz h
    .obtain⟨b',hb'⟩:=dQ hfr r' hr'
     have hne:r≠r':=fun e=>by subst e;simp at hks;exact hks hr'
     exact h2.excl r r' b b' m m _ _ _ _ hne hb hb' hκ hκ' hc0 hc' rfl
   refine zC ⟨m,c',ty,zsm,f1,f2,f3,f4,fun i e he j x hx=>?_⟩;obtain⟨y,ks1,q1,q2,q3⟩:=g2 i e he;obtain⟨_,_,hcel⟩:=Cn q2;obtain⟨m',y',ks2,p1,p2,p3,p4⟩:=hcel j x hx;obtain⟨u,t1,t2,t3⟩:=f5 i y q1 j y' p2;refine⟨u,t1,.data _ _ ?_,t3⟩;have:=ER h2 (A':=fun b=>A' b\/tY κ' ks b) (fun b hb=>zF hb) m' y' x u ks2 p3 t2 (fun b ⟨r,hr,q⟩=>zC ⟨r,q3 r (p4 r hr),q⟩)
   exact this.mono (fun b hb=>by
    have hne:b≠m:=fun e=>hmA (e ▸ hb)
    rcases hf.a1 b hb with h|h
    .exact zF h
    .exact zC ⟨h,hf.alt b hb,hne⟩) (fun _ _ _=>rfl)
end
open Go.RowKit
def sl:List (Nat×PV)->Tm
 |[],_=>.any
 |(j,v)::l,i=>if i=j then v else sl l i
def hl:List (Nat×Blk)->Hp
 |[],_=>none
 |(j,b)::l,i=>if i=j then some b else hl l i
variable {nx:Nat}
def zl(l:List Nat):Fz:=fun r=>l.contains r
def rnL(f:PV->PV->Prop):List PV->List PV->Prop
 |[],[]=>True
 |a::aq,b::bs=>f a b/\rnL f aq bs
 |_,_=>False
def rn(ρ:Nat->Nat)(nx:Nat):Nat->PV->PV->Prop
 |_,.any,_=>True
 |_,.own r off len,v=>r<nx/\v=.own (ρ r) off len
 |_,.ptr r i off,v=>r<nx/\v=.ptr (ρ r) i off
 | n+1,.agg cs,v=>match v with
   |.agg cs'=>rnL (rn ρ nx n) cs cs'
   |_=>False
 | n+1,.func fn f c,v=>match v with
   |.func fn' f' c'=>fn=fn'/\rnL (rn ρ nx n) f f'/\rnL (rn ρ nx n) c c'
   |_=>False
 | n+1,.tup cs,v=>match v with
   |.tup cs'=>rnL (rn ρ nx n) cs cs'
   |_=>False
 |_,.int k n,v=>v=.int k n
 |_,.bool b,v=>v=.bool b
 |_,.str s,v=>v=.str s
 |_,.imm es,v=>v=.imm es
 |_,.nilsl,v=>v=.nilsl
 |_,.cptr e o,v=>v=.cptr e o
 |_,.nilfunc,v=>v=.nilfunc
 |_,.raw u,v=>v=.raw u
 |_,.anyb,v=>v=.anyb
 |_,_,_=>False
def rnB(ρ:Nat->Nat)(nx:Nat)(b' b:Blk):Prop :=
 b'.sz=b.sz/\b'.agg=b.agg/\((b'.els=b.els/\∀ e∈b.els,nr 3 e=true)\/rnL (rn ρ nx 3) b'.els b.els)
section
variable {w:World} {A:Nat->Prop} {κ κ':Ka}
def aI{f:PV->PV->Prop}:∀ {aq bs:List PV},rnL f aq bs->aq.length=bs.length/\∀ (i:Nat) a,aq[i]?=some a->∃ b,bs[i]?=some b/\f a b
 |[],[],_=>⟨rfl,fun i a h=>by simp at h⟩
 | a::aq,b::bs,h=>by
   obtain⟨h1,h2⟩:=h;obtain⟨g1,g2⟩:=aI h2;refine⟨by simp[g1],fun i x hx=>?_⟩;cases i with
   |zero=>simp at hx;subst hx;exact⟨b,rfl,h1⟩
   |succ i=>simpa using g2 i x (by simpa using hx)
 |[],_::_,h=>h.elim
 |_::_,[],h=>h.elim
def RV.rn{ρ:Nat->Nat}  (hk:∀ r,r<nx->κ' r=κ (ρ r)):∀ (n:Nat) (d' d:PV) (v:Value),Go.PI.rn ρ nx n d' d->RV w A κ d v->RV w A κ' d' v:=by
 intro n
 induction n with
 | zero =>
   intro d' d v hr h;cases d' with
   |any=>exact .any _
   | own r off len =>
     obtain⟨h1,rfl⟩:=hr;obtain⟨m,sz,cap,a,rfl,g1,g2,g3⟩:=h.own_inv;exact .own r off len m sz cap a (by rw[hk r h1];exact g1) g2 g3
   | ptr r i off =>
     obtain⟨h1,rfl⟩:=hr;obtain⟨m,sz,cap,rfl,g1⟩:=h.ptr_inv;exact .ptr r i off m sz cap (by rw[hk r h1];exact g1)
   |agg=>exact hr.elim
   |tup=>exact hr.elim
   |func=>exact hr.elim
   |mp=>exact hr.elim
   |_=>simp only[Go.PI.rn]at hr;subst hr;exact RV.nr_any 0 _ v rfl h
 | succ n ih =>
   intro d' d v hr h;cases d' with
   |any=>exact .any _
   | own r off len =>
     obtain⟨h1,rfl⟩:=hr;obtain⟨m,sz,cap,a,rfl,g1,g2,g3⟩:=h.own_inv;exact .own r off len m sz cap a (by rw[hk r h1];exact g1) g2 g3
   | ptr r i off =>
     obtain⟨h1,rfl⟩:=hr;obtain⟨m,sz,cap,rfl,g1⟩:=h.ptr_inv;exact .ptr r i off m sz cap (by rw[hk r h1];exact g1)
   | agg cs =>
     simp only[Go.PI.rn]at hr
     split at hr
     .rename_i cs'
      obtain⟨g1,g2⟩:=aI hr;obtain⟨vs,rfl,h1,h2,h3⟩:=h.agg_inv;refine .agg cs vs zom (fun i x hx=>?_) (fun i hi=>h3 i zom);obtain⟨y,hy,hxy⟩:=g2 i x hx;exact ih x y _ hxy (h2 i y hy)
     .exact hr.elim
   | tup cs =>
     simp only[Go.PI.rn]at hr
     split at hr
     .rename_i cs'
      obtain⟨g1,g2⟩:=aI hr;obtain⟨vs,rfl,h1,h2⟩:=h.tup_inv;refine .tup cs vs zom (fun i x hx=>?_);obtain⟨y,hy,hxy⟩:=g2 i x hx;exact ih x y _ hxy (h2 i y hy)
     .exact hr.elim
   | func fn f c =>
     simp only[Go.PI.rn]at hr
     split at hr
     .rename_i fn' f' c'
      obtain⟨rfl,hf,hc⟩:=hr;obtain⟨g1,g2⟩:=aI hf;obtain⟨k1,k2⟩:=aI hc;obtain⟨fs,cs,rfl,h1,h2,h3,h4⟩:=h.func_inv;refine .func fn f c fs cs zom zom (fun i x hx=>?_) (fun i x hx=>?_)
      .obtain⟨y,hy,hxy⟩:=g2 i x hx
       exact ih x y _ hxy (h3 i y hy)
      .obtain⟨y,hy,hxy⟩:=k2 i x hx
       exact ih x y _ hxy (h4 i y hy)
     .exact hr.elim
   |mp=>exact hr.elim
   |_=>simp only[Go.PI.rn]at hr;subst hr;exact RV.nr_any 0 _ v rfl h
def U8:∀ {l:List (Nat×PV)} {i:Nat},sl l i=.any\/(i,sl l i)∈l
 |[],i=>zF rfl
 | (j,v)::l,i=>by
   unfold sl
   split
   .rename_i h;subst h;exact zC zsm
   .rcases U8 (l:=l) (i:=i) with h|h
    .exact zF h
    .exact zC (xN _ h)
def BK:∀ {l:List (Nat×Blk)} {i:Nat} {b:Blk},hl l i=some b->(i,b)∈l
 | (j,v)::l,i,b,h=>by
   unfold hl at h
   split at h
   .rename_i e;subst e;cases h;simp
   .exact xN _ (BK h)
def U9{ρ:Nat->Nat}{n:Nat}{e' e:PV}(h:Go.PI.rn ρ nx n e' e)(hs:e'≠.any):e'.cells.length=e.cells.length/\e'.isAgg=e.isAgg/\∀ (j:Nat) x,e'.cells[j]?=some x->∃ m y,e.cells[j]?=some y/\Go.PI.rn ρ nx m x y:=by
 have one:∀ (e' e:PV),e'.cells=[e']->e.cells=[e]->e'.isAgg=false->e.isAgg=false->Go.PI.rn ρ nx n e' e->e'.cells.length=e.cells.length/\e'.isAgg=e.isAgg/\∀ (j:Nat) x,e'.cells[j]?=some x->∃ m y,e.cells[j]?=some y/\Go.PI.rn ρ nx m x y:=by
  intro e' e h1 h2 h3 h4 h;rw[h1,h2,h3,h4];refine⟨rfl,rfl,fun j x hj=>?_⟩;cases j with
  |zero=>simp at hj;subst hj;exact⟨n,e,rfl,h⟩
  |succ j=>simp at hj
 cases e' with
 |any=>exact absurd rfl hs
 | agg cs =>
   cases n with
   |zero=>exact h.elim
   | succ n =>
     simp only[Go.PI.rn]at h
     split at h
     .rename_i cs'
      obtain⟨g1,g2⟩:=aI h;exact⟨g1,rfl,fun j x hj=>let ⟨y,hy,hxy⟩:=g2 j x hj;⟨n,y,hy,hxy⟩⟩
     .exact h.elim
 |own r off len=>have h':=h;cases n<;>(obtain⟨_,rfl⟩:=h;exact one _ _ rfl rfl rfl rfl h')
 |ptr r i off=>have h':=h;cases n<;>(obtain⟨_,rfl⟩:=h;exact one _ _ rfl rfl rfl rfl h')
 | tup cs =>
   cases n with
   |zero=>exact h.elim
   | succ n =>
     have h':=h;simp only[Go.PI.rn]at h
     split at h
     .exact one _ _ rfl rfl rfl rfl h'
     .exact h.elim
 | func fn f c =>
   cases n with
   |zero=>exact h.elim
   | succ n =>
     have h':=h;simp only[Go.PI.rn]at h
     split at h
     .exact one _ _ rfl rfl rfl rfl h'
     .exact h.elim
 |mp=>cases n<;>exact h.elim
 |_=>have h':=h;cases n<;>(simp only[Go.PI.rn]at h;subst h;exact one _ _ rfl rfl rfl rfl h')
end
def N9{G:Gl}{n0:Nat}{s:St}{L:List (Nat×PV)}{H:List (Nat×Blk)}{Z:List Nat}{k:Nat}(ρ:Nat->Nat)(h0:n0<=k)(hρ:∀ r,r<n0->ρ r=r)
 (hL:∀ p∈L,rn ρ k 3 p.2 (s.t p.1)) (hH:∀ q∈H,q.1<k/\(∀ e∈q.2.els,e≠.any)/\∃ b,s.h (ρ q.1)=some b/\rnB ρ k q.2 b/\zl Z q.1=s.z (ρ q.1)) (hZ:∀ r∈Z,r<k)
 (hinj:∀ p∈H,∀ q∈H,p.1≠q.1->ρ p.1≠ρ q.1):LeS G n0 s { t:=sl L,h:=hl H,z:=zl Z,nx:=k }:=by
 intro E N df a w A κ hE hR;subst hE;let κ':Ka:=fun r=>if r<k then κ (ρ r) else none
 have hk':∀ r,r<k->κ' r=κ (ρ r):=fun r hr=>by simp[κ',hr]
 refine ⟨A, κ', ⟨?_, fun r hr => ⟨?_, ?_, by have:¬ r<k:=by have:k<=r:=hr;omega
                                             simp[κ',this]⟩,h0,fun i hi=>?_,hR.size,hR.df⟩⟩
 .have H0:=hR.hr
  refine⟨H0.bel,H0.hB,H0.alt,H0.a0,H0.a1,H0.acell,fun r hr=>?_,fun g e hg=>?_,fun r m sz cap hr=>?_,⟨fun r b' m sz cap hb hκ hc hz=>?_,H0.kp.kb,H0.kp.kk,H0.kp.zk⟩,fun r b' hb hκ=>?_,fun r r' b b' m m' s1 s2 c c' hne hr hr' h1 h2 hc hc'=>?_⟩
  .rw[hk' r zom,hρ r hr];exact H0.k0 r hr
  .obtain⟨b,o,val,hv,h1,h2,h3⟩:=(H0.glob g e hg).cptr_inv
   rw[hv];exact .data _ _ (.cptr e 0 b o val h1 h2 h3)
  .by_cases hlt:r<k
   .rw[hk' r hlt]at hr;exact H0.klt (ρ r) m sz cap hr
   .simp[κ',hlt]at hr
  .obtain⟨h1,_,b,h2,_,h5⟩:=hH _ (BK hb)
   rw[hk' r h1]at hκ;exact H0.kp.own _ b m sz cap h2 hκ hc (by rw[<- h5];exact hz)
  .obtain⟨h1,hany,b,h2,⟨h3,h3',h4⟩,h5⟩:=hH _ (BK hb)
   obtain⟨m,cap,g1,g2,g3,g4⟩:=H0.blk _ b h2 (by rw[<- hk' r h1];exact hκ)
   have hlen:b'.els.length=b.els.length:=by
    rcases h4 with h|h
    .rw[h.1]
    .exact(aI h).1
   refine⟨m,cap,by rw[hk' r h1,g1,h3],zom,fun e he=>?_,?_⟩
   .rcases h4 with h|h
    .rw[h3,h3'];exact g3 e (by rw[<- h.1];exact he)
    .obtain⟨i,hi,rfl⟩:=uE he
     obtain⟨y,hy,hxy⟩:=(aI h).2 i _ (wN hi);obtain⟨c1,c2,_⟩:=U9 hxy (hany _ he);have:=g3 y (wO hy);rw[h3,h3',c1,c2];exact this
   .rw [<- h5]at g4
    rcases g4 with g4|⟨⟨p1,p2,p3,p4⟩,g4⟩|⟨c,ty,f1,f2,f3,f4,f5,f6⟩
    .exact zF g4
    .exact zC (zF ⟨⟨vZ.1 (by rw[hlen,p1];rfl),h3.trans p2,h3'.trans p3,p4⟩,g4⟩)
    .refine zC (zC ⟨c,ty,by rw[h3,h3'];exact f1,f2,by rw[h3];exact f3,f4,fun i e he j x hx=>?_,f6⟩)
     rw[h3];rcases h4 with h|h
     .rw [h.1]at he
      obtain⟨v,q1,q2,q3⟩:=f5 i e he j x hx;refine⟨v,q1,?_,q3⟩;have hnr:=h.2 e (wO he)
      have hnx:∃ n,nr n x=true:=by
       cases e with
       | agg cs =>
         simp only[nr,xZ]at hnr;exact⟨2,hnr x (wO hx)⟩
       | _ =>
         simp only[PV.cells]at hx;cases j with
         |zero=>simp at hx;subst hx;exact⟨3,hnr⟩
         |succ j=>simp at hx
      obtain⟨n,hn⟩:=hnx;exact RV.nr_any n x v hn q2
     .obtain⟨y,hy,hxy⟩:=(aI h).2 i e he
      obtain⟨_,_,c3⟩:=U9 hxy (hany _ (wO he));obtain⟨m',y',hy',hr'⟩:=c3 j x hx;obtain⟨v,q1,q2,q3⟩:=f5 i y hy j y' hy';exact⟨v,q1,RV.rn hk' m' x y' v hr' q2,q3⟩
  .obtain⟨p1,_,bp,p2,_,_⟩:=hH _ (BK hr)
   obtain⟨q1,_,bq,q2,_,_⟩:=hH _ (BK hr');rw[hk' r p1]at h1;rw[hk' r' q1]at h2;exact H0.excl _ _ bp bq m m' _ _ _ _ (hinj _ (BK hr) _ (BK hr') hne) p2 q2 h1 h2 hc hc'
 .cases hb:hl H r with
  |none=>exact hb
  |some b=>have:=(hH _ (BK hb)).1;have h2:k<=r:=hr;simp only at this;omega
 .have h2:k<=r:=hr
  show Z.contains r=false
  refine contains_false.2 fun hm=>?_
  have:=hZ r hm;omega
 .show RV w A κ' (sl L i) _
  rcases U8 (l:=L) (i:=i) with h|h
  .rw[h];exact .any _
  .exact RV.rn hk' 3 _ _ _ (hL _ h) (hR.tm i hi)
def uXH{α:Type}(o:Option α)(F:α->Prop):Prop :=
 match o with
 |some v=>F v
 |none=>False
section
variable {P:Program} {G:Gl} {C:wK} {I:rP} {D:Bool} {K:FP->St->Prop} {s:St} {d:Option Nat} {ty':TypeId} {pos:String} {after:Array Edge} {g:Option (Nat×Bool)}
section
variable {i:TI} {ifc:Bool} {k:IntKind} {a b:Int} {h:Hp}
end
end
variable {ops:List Oper}{fp:FP}{args:List PV}{d:Option Nat}
section
variable {P:Program} {G:Gl} {C:wK} {I:rP} {Le:LeT} {D:Bool} {s:St}
def guarded(v:PV)(want:Bool)(run pass:Prop):Prop:=match v with
 |.bool b=>(b=want->run)/\(b=(!want)->pass)
 |.tup []=>pass
 |_=>False
def wpF(P:Program)(G:Gl)(C:wK)(I:rP)(ds:List (Option Nat)):List Oper->(St->Prop)->St->Prop
 |[],K,s=>K s
 | o :: rest,K,s =>
   match o.guard with
   |none=>uG P G C I false o (fun _ s'=>wpF P G C I ds rest K s') s
   | some (j,want)=>match (ds[j]?).bind id with
     |some d=>guarded (s.t d) want (uG P G C I false o (fun _ s'=>wpF P G C I ds rest K s') s) (wpF P G C I ds rest K (put { s with nx:=s.nx+1 } o.dst (.tup [])))
     |none=>False
def VA{o:Oper}{K K':FP->St->Prop}(h:∀ fp s,K fp s=K' fp s):uG P G C I D o K s=uG P G C I D o K' s:=by
 have:K=K':=funext fun fp=>funext fun s=>h fp s
 rw[this]
def VB  {j:Nat}:(ops[j]?).bind (·.dst)=((ops.map (·.dst))[j]?).bind id:=by
 rw[uF];cases ops[j]?<;>rfl
def OA{ops:List Oper}{K:St->Prop}:∀ (l:List Oper) (i:Nat) (acc:List (Nat×FP)) (s:St),wpOps P G C I false ops i acc l K s=wpF P G C I (ops.map (·.dst)) l K s
 |[],_,_,_=>rfl
 | o :: rest,i,acc,s=>by
   have e:uG P G C I false o (fun fp s'=>((false:Bool)=true->rO ops o fp acc=true)/\wpOps P G C I false ops (i+1) ((i,fp)::acc) rest K s') s=uG P G C I false o (fun _ s'=>wpF P G C I (ops.map (·.dst)) rest K s') s :=
    VA fun fp s'=>by rw[OA rest];simp
   unfold wpOps wpF;dsimp only;cases o.guard with
   |none=>exact e
   | some jw =>
     obtain⟨j,want⟩:=jw;dsimp only;rw[VB,e,OA rest];cases ((ops.map (·.dst))[j]?).bind id with
     |none=>rfl
     | some d =>
       dsimp only[guarded];cases s.t d with
       |tup vs=>cases vs<;>rfl
       |_=>rfl
def FP.none:FP->Bool
 |⟨[],[],[]⟩=>true
 |_=>false
def BL(i:Nat)(fp:FP)(acc:List (Nat×FP)):List (Nat×FP):=if fp.none then acc else(i,fp)::acc
def wpT(P:Program)(G:Gl)(C:wK)(I:rP)(os:List Oper):Nat->List (Nat×FP)->List Oper->(St->Prop)->St->Prop
 |_,_,[],K,s=>K s
 | i,acc,o::rest,K,s =>
   match o.guard with
   |none=>uG P G C I true o (fun fp s'=>rO os o fp acc=true/\wpT P G C I os (i+1) (BL i fp acc) rest K s') s
   | some (j,want)=>match (os[j]?).bind (·.dst) with
     |some d=>guarded (s.t d) want (uG P G C I true o (fun fp s'=>rO os o fp acc=true/\wpT P G C I os (i+1) (BL i fp acc) rest K s') s) (wpT P G C I os (i+1) acc rest K (put { s with nx:=s.nx+1 } o.dst (.tup [])))
     |none=>False
def vTA{f:FP}(h:f.none=true):FP.apart f fp=true:=by
 obtain⟨a,b,c⟩:=f;cases a<;>cases b<;>cases c<;>simp[FP.none]at h
 simp[FP.apart]
def J5{os:List Oper}{o:Oper}{f:FP}{k:Nat}{acc:List (Nat×FP)}:rO os o fp ((k,f)::acc)=((rN os 4 o k||FP.apart f fp)&&rO os o fp acc):=rfl
def OB{ops:List Oper}{K:St->Prop}:∀ (l:List Oper) (i:Nat) (acc acc':List (Nat×FP)) (s:St),(∀ o fp,rO ops o fp acc=rO ops o fp acc')->wpOps P G C I true ops i acc l K s=wpT P G C I ops i acc' l K s
 |[],_,_,_,_,_=>rfl
 | o :: rest,i,acc,acc',s,ha=>by
   have ha':∀ fp (o:Oper) (fp':FP),rO ops o fp' ((i,fp)::acc)=rO ops o fp' (BL i fp acc'):=fun fp o fp'=>by
    unfold BL
    split
    .rename_i h;rw[J5,vTA h,gZ,Bool.true_and,ha]
    .rw[J5,J5,ha]
   have e:uG P G C I true o (fun fp s'=>((true:Bool)=true->rO ops o fp acc=true)/\wpOps P G C I true ops (i+1) ((i,fp)::acc) rest K s') s=uG P G C I true o (fun fp s'=>rO ops o fp acc'=true/\wpT P G C I ops (i+1) (BL i fp acc') rest K s') s :=
    VA fun fp s'=>by rw[OB rest (i+1) _ _ s' (ha' fp),ha];simp
   unfold wpOps wpT;dsimp only;cases o.guard with
   |none=>exact e
   | some jw =>
     obtain⟨j,want⟩:=jw;dsimp only;rw[e,OB rest (i+1) acc acc' _ ha];cases (ops[j]?).bind (·.dst) with
     |none=>rfl
     | some d =>
       dsimp only[guarded];cases s.t d with
       |tup vs=>cases vs<;>rfl
       |_=>rfl
def uK0{id:Nat}  {Q:Exit->St->Prop}(h:wpF P G C I (ops.map (·.dst)) ops (Q .normal) s):wp P G C I Le (.region id ops.toArray false) Q s:=wp_region (by rw[OA];exact h)
def uKZ{id:Nat}  {Q:Exit->St->Prop}(h:wpT P G C I ops 0 [] ops (Q .normal) s):wp P G C I Le (.region id ops.toArray true) Q s:=wp_region (by rw[OB _ _ _ _ _ fun _ _=>rfl];exact h)
section
variable {ds:List (Option Nat)} {d:Option Nat} {op:Op} {ty:TypeId} {pos:String} {after:Array Edge} {rest:List Oper} {K:St->Prop} {i j:Nat} {acc:List (Nat×FP)} {want:Bool}
end
def uFX{z:Fz}:yY z []=z:=by funext r;simp[yY]
def uA7{f:FuncId}{ds:List PV}{ks:List Nat}{v:PV}  {K:FP->St->Prop}(hC:C f ds (.data v))(hf:zZ (frz s.h 6) args=some (ds,ks))(hk:K ⟨ks,[],ks⟩ (put { s with z:=yY s.z ks,nx:=s.nx+1 } d v)) :
 fE C I D f args d K s:=zF ⟨⟨ks,[],ks⟩,v,s.h,zF ⟨6,ds,.data v,hf,hC,zA,rfl,rfl,rfl,rfl⟩,hk⟩
def vSW{f:FuncId}{ds:List PV}{ks:List Nat}{els:List PV}{sz:Nat}{agg:Bool}  {K:FP->St->Prop}(hC:C f ds (.fresh els sz agg))(hf:zZ (frz s.h 6) args=some (ds,ks))
 (hk:K ⟨ks,[s.nx],ks⟩ (put { s with h:=hset s.h s.nx (some ⟨els,sz,agg⟩),z:=yY s.z ks,nx:=s.nx+1 } d (.own s.nx 0 els.length))) :
 fE C I D f args d K s:=zF ⟨⟨ks,[s.nx],ks⟩,_,_,zF ⟨6,ds,.fresh els sz agg,hf,hC,zA,rfl,rfl,rfl,rfl⟩,hk⟩
def uG7{f:FuncId}   {K:FP->St->Prop}(h:I f args (fun v s'=>K ⟨[],[],[]⟩ (put { s' with t:=s.t } d v)) s):fE C I false f args d K s:=zC ⟨rfl,h⟩
def BM{α:Type}{h:Hp}{n:Nat}{f:α->PV}(he:∀ x,frz h n (f x)=some (f x,[])):∀ l:List α,zZ (frz h n) (l.map f)=some (l.map f,[])
 |[]=>rfl
 | x::l=>by
   simp only[uW,zZ,he,BM he l,mV]
def gives(h:Hp)(v d:PV):Prop:=∃ ks,frz h 4 v=some (d,ks)
end
variable {fn:Func}{c:Code}{r:Nat}{els:List PV}{s:St}{off:Nat}{agg:Bool}
section
variable {P:Program} {G:Gl} {n0:Nat}
def uUA(hm:P.follows .mixedOrders=true){f:FuncId}   {rs:List ResultVar}{nt:Nat}(ok:FnOk P f fn c rs nt){ds:List PV}(hl:ds.length<=nt){d:PV}
 (h:wp P G (FnC P G) (FnH P G) (LeS G,0) c (aH P rs fun v s=>gives s.h v d) (start ds)):FnC P G f ds (.data d):=U7 hm ok hl h
def OC(els:List PV)(sz:Nat)(agg:Bool)(v:PV)(s:St):Prop :=
 (v=.nilsl/\els=[])\/∃ r b ks,v=.own r 0 els.length/\s.h r=some b/\b.sz=sz/\b.agg=agg/\b.els.length=els.length/\s.z r=false/\zZ (frz s.h 4) b.els=some (els,ks)/\ks.contains r=false
def uO6(hm:P.follows .mixedOrders=true){f:FuncId}   {rs:List ResultVar}{nt:Nat}(ok:FnOk P f fn c rs nt){ds:List PV}(hl:ds.length<=nt)  {sz:Nat}  (hd:sz≠0)
 (h:wp P G (FnC P G) (FnH P G) (LeS G,0) c (aH P rs (OC els sz agg)) (start ds)):FnC P G f ds (.fresh els sz agg):=zOY hm ok hl hd h
def vMU  {sz:Nat}  {len:Nat}  (hl:len=els.length)(hb:s.h r=some ⟨els,sz,agg⟩)(hz:s.z r=false)(hf:zZ (frz s.h 4) els=some (els,[])):OC els sz agg (.own r 0 len) s:=by
 subst hl;exact zC ⟨r,_,[],rfl,hb,rfl,rfl,rfl,hz,hf,rfl⟩
def okS(ρ:Nat->Nat)(k:Nat):List (Nat×PV)->Tm->Prop
 |[],_=>True
 |(j,v)::l,t=>rn ρ k 3 v (t j)/\okS ρ k l t
def okH(ρ:Nat->Nat)(k:Nat)(Z:List Nat):List (Nat×Blk)->Hp->Fz->Prop
 |[],_,_=>True
 |(r,b)::l,h,z=>(r<k/\(∀ e∈b.els,e≠.any)/\(uXH (h (ρ r)) fun b'=>rnB ρ k b b')/\Z.contains r=z (ρ r))/\okH ρ k Z l h z
def OD{ρ:Nat->Nat}{k:Nat}{t:Tm}:∀ {l:List (Nat×PV)},okS ρ k l t->∀ p∈l,rn ρ k 3 p.2 (t p.1)
 |[],_,p,hp=>by cases hp
 | (j,v)::l,h,p,hp=>by
   rcases yI.1 hp with rfl|hp
   .exact h.1
   .exact OD h.2 p hp
def VD{ρ:Nat->Nat}{k:Nat}{Z:List Nat}{h:Hp}{z:Fz}:∀ {l:List (Nat×Blk)},okH ρ k Z l h z->∀ q∈l,q.1<k/\(∀ e∈q.2.els,e≠.any)/\∃ b,h (ρ q.1)=some b/\rnB ρ k q.2 b/\zl Z q.1=z (ρ q.1)
 |[],_,q,hq=>by cases hq
 | (r,b)::l,hh,q,hq=>by
   rcases yI.1 hq with rfl|hq
   .obtain⟨⟨h1,h2,h3,h4⟩,_⟩:=hh
    refine⟨h1,h2,?_⟩;cases hb:h (ρ r) with
    |none=>rw[hb]at h3;exact h3.elim
    |some b'=>rw[hb]at h3;exact⟨b',rfl,h3,h4⟩
   .exact VD hh.2 q hq
def ren(n0:Nat)(l:List Nat)(r:Nat):Nat:=if r<n0 then r else l.getD (r-n0) r
def VE  {L:List (Nat×PV)}{k:Nat}(h0:n0<=k)(hL:okS id k L s.t):LeS G n0 s { t:=sl L,h:=hl [],z:=zl [],nx:=k } :=
 N9 id h0 (fun _ _=>rfl) (OD hL) (fun q hq=>by cases hq) (fun r hr=>by cases hr) (fun p hp=>by cases hp)
def OE  {L:List (Nat×PV)}{H:List (Nat×Blk)}{Z:List Nat}{k:Nat}(ρ:List Nat)(h0:n0<=k)(hL:okS (ren n0 ρ) k L s.t)(hH:okH (ren n0 ρ) k Z H s.h s.z)(hZ:∀ r∈Z,r<k)
 (hinj:(H.map fun q=>ren n0 ρ q.1).Pairwise (·≠·)):LeS G n0 s { t:=sl L,h:=hl H,z:=zl Z,nx:=k }:=by
 refine N9 (ren n0 ρ) h0 (fun r hr=>by simp[ren,hr]) (OD hL) (VD hH) hZ (fun p hp q hq hne=>?_);clear hH
 induction H with
 |nil=>cases hp
 | cons x H ih =>
   rw[uW,JV]at hinj;rcases yI.1 hp with e1|hp'
   .rcases yI.1 hq with e2|hq'
    .rw[e1,e2]at hne;exact absurd rfl hne
    .rw[e1];exact hinj.1 _ (zW.2 ⟨q,hq',rfl⟩)
   .rcases yI.1 hq with e2|hq'
    .rw[e2];exact(hinj.1 _ (zW.2 ⟨p,hp',rfl⟩)).symm
    .exact ih hinj.2 hp' hq'
def Gs{C:wK}  {Q:Exit->St->Prop}  {ι:Type}(L:ι->List (Nat×PV))(H:ι->List (Nat×Blk))(Z:ι->List Nat)(k:Nat)(Inv:ι->Prop)(μ:ι->Nat)(i0:ι)(h0:Inv i0)
 (hs:LeS G n0 s { t:=sl (L i0),h:=hl (H i0),z:=zl (Z i0),nx:=k })
 (round:∀ i,Inv i->wp P G C (FnH P G) (LeS G,n0) c (nG (fun s'=>∃ i',Inv i'/\μ i'<μ i/\LeS G n0 s' { t:=sl (L i'),h:=hl (H i'),z:=zl (Z i'),nx:=k }) Q) { t:=sl (L i),h:=hl (H i),z:=zl (Z i),nx:=k }) :
 Nb P G C (FnH P G) (LeS G,n0) c Q s :=
 wp_loop FnH.mono (fun i=>{ t:=sl (L i),h:=hl (H i),z:=zl (Z i),nx:=k }) Inv μ i0 h0 hs round
def vSM{C:wK}  {Q:Exit->St->Prop}  {ι:Type}(L:ι->List (Nat×PV))(Inv:ι->Prop)(μ:ι->Nat)(i0:ι)(h0:Inv i0)
 (hs:okS id n0 (L i0) s.t)
 (round:∀ i,Inv i->wp P G C (FnH P G) (LeS G,n0) c (nG (fun s'=>∃ i',(Inv i'/\μ i'<μ i)/\okS id n0 (L i') s'.t) Q) { t:=sl (L i),h:=hl [],z:=zl [],nx:=n0 }) :
 Nb P G C (FnH P G) (LeS G,n0) c Q s :=
 Gs L (fun _=>[]) (fun _=>[]) n0 Inv μ i0 h0 (VE (zX _) hs) fun i hi=>wp_mono FnH.mono c _ _ _ (fun e s' h=>by
  cases e<;>first|(obtain⟨i',⟨h1,h2⟩,h3⟩:=h;exact⟨i',h1,h2,VE (zX _) h3⟩)|exact h) (round i hi)
end
section
variable {ρ:Nat->Nat} {nx n:Nat} {v:PV}
def OG{k:IntKind}{m:Int}:rn ρ nx n (.int k m) v=(v=.int k m):=by cases n<;>rfl
def uL4{b:Bool}:rn ρ nx n (.bool b) v=(v=.bool b):=by cases n<;>rfl
def uSF{es:List PV}:rn ρ nx n (.imm es) v=(v=.imm es):=by cases n<;>rfl
def VF:rn ρ nx n .nilsl v=(v=.nilsl):=by cases n<;>rfl
def uL3{e:PV}{o:Nat}:rn ρ nx n (.cptr e o) v=(v=.cptr e o):=by cases n<;>rfl
def Gt{len:Nat}:rn ρ nx n (.own r off len) v=(r<nx/\v=.own (ρ r) off len):=by cases n<;>rfl
def uSE{i:Nat}:rn ρ nx n (.ptr r i off) v=(r<nx/\v=.ptr (ρ r) i off):=by cases n<;>rfl
def VG{cs cs':List PV}:rn ρ nx (n+1) (.agg cs) (.agg cs')=rnL (rn ρ nx n) cs cs':=rfl
def VH{f:PV->PV->Prop}:rnL f [] []=True:=rfl
def VI{f:PV->PV->Prop}{a b:PV}{aq bs:List PV}:rnL f (a::aq) (b::bs)=(f a b/\rnL f aq bs):=rfl
end
def uWK{n:Int}(h1:-9223372036854775808<=n)(h2:n<9223372036854775808):IntKind.i64.wrap n=n:=by
 rw[IntKind.wrap_i64];omega
def VJ{n:Int}(h1:0<=n)(h2:n<18446744073709551616):IntKind.u64.wrap n=n:=by
 rw[IntKind.wrap_u64];omega
def uWJ{n:Int}(h1:0<=n)(h2:n<4294967296):IntKind.u32.wrap n=n:=by
 rw[IntKind.wrap_u32];omega
def zO{p:Prop}(h:p:=by simp[ren]):p:=h
end Go.PI
