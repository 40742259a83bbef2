/-
  PI: a range over a function, in the model.
-/
import Derived.Test.YtbelmkceegmdjaaGreatDoorCPA
import Derived.Still
import Derived.OrdersIn
import Derived.TacticsIn
import Derived.RangeFuncRecord
import Derived.RangeFuncIn
set_option linter.unusedVariables false
set_option linter.unusedSimpArgs false
set_option linter.unnecessarySimpa false
set_option maxHeartbeats 0
namespace Go.PI
open Go.RowKit
section
variable {P:Program} {E:Env} {G:Gl} {w w':World} {A:Nat->Prop} {κ:Ka} {h:Hp} {z:Fz}
theorem HR.stepW(H:HR E G w A κ h z)(hb0:Below 0 w w')(hbel:Below E.B E.w0 w'){ex:Nat->Prop}(hpres:∀ b,b<w.heap.size->¬ ex b->w'.heap[b]?=w.heap[b]?)
 (hex:∀ b,ex b->¬ A b/\¬ E.S b/\¬ E.K b/\E.B<=b/\∃ c ty,w.heap[b]?=some (.cells c ty (0,0)))
 (hexk:∀ r b m s c,h r=some b->κ r=some (m,s,c)->c≠0->¬ ex m) {A':Nat->Prop} (hA':∀ b,A b->A' b) (hnew:∀ b,A' b->A b\/w.heap.size<=b\/ex b) (hAlt:∀ b,A' b->b<w'.heap.size) :
 HR E G w' A' κ h z:=by
 have hcell:∀ b o,A b->w'.cell? ⟨b,o,none⟩=w.cell? ⟨b,o,none⟩:=fun b o hA=>cell?_of_heap (hpres b (H.alt b hA) fun e=>(hex b e).1 hA) o
 have mono:∀ {d v},RV w A κ d v->RV w' A' κ d v:=fun hv=>hv.mono hA' hcell (fun _ _ h=>h)
 have hnot:∀ b,b<w.heap.size->¬ ex b->¬ A b->¬ A' b:=fun b h1 h2 h3 h4=>by
  rcases hnew b h4 with h | h | h
  .exact h3 h
  .omega
  .exact h2 h
 have hdef:∀ (D:Nat) (o:Obj),vEI o=true->w.heap[D]?=some o->D<w.heap.size/\¬ ex D:=fun D o h1 h2=>by
  refine⟨(rA6.1 h2).1,fun e=>?_⟩;obtain⟨_,_,_,_,c,ty,h3⟩:=hex D e;rw[h2]at h3;cases h3
  simp[vEI]at h1
 have hw:=H.kp.world hb0 (fun b hSK hlt=>hpres b hlt fun e=>by
  obtain⟨_,h2,h3,_⟩:=hex b e;rcases hSK with h | h
  .exact h2 h
  .exact h3 h) (fun D o h1 h2=>hpres D (hdef D o h1 h2).1 (hdef D o h1 h2).2)
 refine⟨hbel,rBV H.hB hb0.size,hAlt,fun b hb=>hA' b (H.a0 b hb),fun b hb=>?_,fun b o hb=>(hcell b o (H.a0 b hb)).trans (H.acell b o hb),H.k0,fun g e hg=>mono (H.glob g e hg),fun r m sz cap hr=>?_,?_,fun r b hr hκ=>?_,H.excl⟩
 .rcases hnew b hb with h | h | h
  .exact H.a1 b h
  .exact rAZ (rBV H.hB h)
  .exact rAZ (hex b h).2.2.2.1
 .rcases H.klt r m sz cap hr with h | h
  .exact rAW h
  .exact rAZ (rA4 h hb0.size)
 .refine⟨hw.base,hw.keep,fun b hb=>⟨(hw.wr b hb).1,?_⟩,hw.own,fun D hD=>⟨(hw.mks D hD).1,⟨(hw.mks D hD).2.1.1,?_⟩,(hw.mks D hD).2.2⟩,hw.nd,hw.kb,hw.kk,fun b hb=>⟨(hw.zk b hb).1,?_,(hw.zk b hb).2.2⟩,hw.mk0,hw.gk⟩
  .exact hnot b (H.kp.keep b (H.kp.wr b hb).1).1 (fun e=>(hex b e).2.1 (H.kp.wr b hb).1) (H.kp.wr b hb).2
  .have:=hdef D _ rfl (H.kp.mks D hD).2.2
   exact hnot D this.1 this.2 (H.kp.mks D hD).2.1.2
  .exact hnot b (H.kp.kk b (H.kp.zk b hb).1).1 (fun e=>(hex b e).2.2.1 (H.kp.zk b hb).1) (H.kp.zk b hb).2.1
 .obtain⟨m,cap,h1,h2,h3,h4⟩:=H.blk r b hr hκ
  refine⟨m,cap,h1,h2,h3,?_⟩;by_cases hc0:cap=0
  .exact rAW hc0
  obtain⟨c,ty,g1,g2,g3,g4,g5,g6,g7⟩:=h4.resolve_left hc0;have hm:=(rA6.1 g2).1;have hne:=hexk r b m b.sz cap hr h1 hc0;exact rAZ ⟨c,ty,g1,by rw[hpres m hm hne]; exact g2,g3,g4,fun i e he=>(g5 i e he).mono hA' hcell (fun _ _ h=>h),fun hz=>hnot m hm hne (g6 hz),fun hz=>hA' m (g7 hz)⟩
def kOf(κ:Ka)(q:Option Nat):Ka:=fun j=>if j=0 then(match q with
 | some r=>κ r
 | none=>none) else none
theorem zK0(H:HR E G w A κ h z){n:Nat}{q:Option Nat}{x y:PV}{ks:List Nat}{Af:Nat->Prop}(hA:∀ b,A b->Af b)(hks:∀ b,vBQ κ ks b->Af b)(he:cv1 h n q x=some (y,ks)){v:Value}(hv:RV w A κ x v):RV w Af (kOf κ q) y v:=by
 have gen:frz h n x=some (y,ks)->RV w Af (kOf κ q) y v:=fun hf=>.data _ _ (zFN H hA n x y v ks hf hv hks)
 unfold cv1 at he
 split at he
 .cases he
  rw[hv.nilsl_inv]; exact .nilsl
 .rename_i r off len
  split at he
  .rename_i e
   cases he
   obtain⟨m,sz,cap,a,rfl,hκ,hle,ha⟩:=hv.own_inv;exact .own 0 off len m sz cap a (by simp only[kOf,e]; exact hκ) hle ha
  .exact gen he
 .rename_i r i off
  split at he
  .rename_i e
   cases he
   obtain⟨m,sz,cap,rfl,hκ⟩:=hv.ptr_inv;exact .ptr 0 i off m sz cap (by simp only[kOf,e]; exact hκ)
  .exact gen he
 .exact gen he
theorem uEB(H:HR E G w A κ h z){n:Nat}{q:Option Nat}{x y:PV}{ks:List Nat}{Af:Nat->Prop}(hA:∀ b,A b->Af b)(hks:∀ b,vBQ κ ks b->Af b)(he:cv h n q x=some (y,ks)){v:Value}(hv:RV w A κ x v):RV w Af (kOf κ q) y v:=by
 unfold cv at he
 split at he
 .rename_i cs
  split at he
  .rename_i ds ks' hm
   cases he
   obtain⟨vs,rfl,h1,h2,h3⟩:=hv.agg_inv;obtain⟨g1,g2⟩:=zCG hm;refine .agg ds vs (by rw[h1,g1]) (fun i d hd=>?_) (fun i hi=>h3 i zom);obtain⟨x,ks1,e1,e2,e3⟩:=g2 i d hd;exact zK0 H hA (fun b ⟨r,hr,hb⟩=>hks b ⟨r,e3 r hr,hb⟩) e2 (h2 i x e1)
  .cases he
 .rename_i fn f c
  split at he
  .rename_i fs ks1 cs ks2 hm1 hm2
   cases he
   obtain⟨us,vs,rfl,h1,h2,h3,h4⟩:=hv.func_inv;obtain⟨g1,g2⟩:=zCG hm1;obtain⟨g3,g4⟩:=zCG hm2;refine .func fn fs cs us vs zom zom (fun i d hd=>?_) (fun i d hd=>?_)
   .obtain⟨x,ks',e1,e2,e3⟩:=g2 i d hd
    exact zK0 H hA (fun b ⟨r,hr,hb⟩=>hks b ⟨r,rB0 _ (e3 r hr),hb⟩) e2 (h3 i x e1)
   .obtain⟨x,ks',e1,e2,e3⟩:=g4 i d hd
    exact zK0 H hA (fun b ⟨r,hr,hb⟩=>hks b ⟨r,rBW _ (e3 r hr),hb⟩) e2 (h4 i x e1)
  .cases he
 .exact zK0 H hA hks he hv
theorem zNR{n:Nat}{q:Option Nat}{x y:PV}{ks:List Nat}(he:cv1 h n q x=some (y,ks)):∀ r∈ks,∃ b,h r=some b:=by
 unfold cv1 at he
 split at he
 .cases he; intro r hr; cases hr
 .split at he
  .cases he; intro r hr; cases hr
  .exact zIN _ _ _ _ he
 .split at he
  .cases he; intro r hr; cases hr
  .exact zIN _ _ _ _ he
 .exact zIN _ _ _ _ he
theorem zER{f:PV->Option (PV×List Nat)}(hf:∀ x y ks,f x=some (y,ks)->∀ r∈ks,∃ b,h r=some b):∀ {l ds:List PV} {ks:List Nat},vB6 f l=some (ds,ks)->∀ r∈ks,∃ b,h r=some b
 | [],ds,ks,he=>by
   simp only[vB6]at he; cases he; intro r hr; cases hr
 | x :: l,ds,ks,he=>by
   simp only[vB6]at he
   split at he
   .rename_i d ks1 ds' ls h1 h2
    cases he
    intro r hr;rcases rAY.1 hr with hr | hr
    .exact hf _ _ _ h1 r hr
    .exact zER hf h2 r hr
   .cases he
theorem vIB{n:Nat}{q:Option Nat}{x y:PV}{ks:List Nat}(he:cv h n q x=some (y,ks)):∀ r∈ks,∃ b,h r=some b:=by
 unfold cv at he
 split at he
 .split at he
  .rename_i hm; cases he; exact zER (fun _ _ _ e=>zNR e) hm
  .cases he
 .split at he
  .rename_i h1 h2
   cases he
   intro r hr;rcases rAY.1 hr with hr | hr
   .exact zER (fun _ _ _ e=>zNR e) h1 r hr
   .exact zER (fun _ _ _ e=>zNR e) h2 r hr
  .cases he
 .exact zNR he
theorem HR.gok{h:Hp}{z:Fz}(H:HR E G w A κ h z):Gok G w A:=fun g e hg=>by
 obtain⟨b,o,val,hv,hA,hc,hd⟩:=(H.glob g e hg).cptr_inv;rw[hv];exact .data _ _ (.cptr e 0 b o val hA hc hd)
theorem uDH{d:PV}(h:nr 2 d=true):nr 3 d=true:=by
 have up1:∀ d,nr 0 d=true->nr 1 d=true:=fun d h=>by cases d<;>first | rfl | (simp[nr]at h)
 have up2:∀ d,nr 1 d=true->nr 2 d=true:=fun d h=>by
  cases d with
  | agg cs=>simp only[nr,rBF]at h ⊢; exact fun x hx=>up1 x (h x hx)
  | tup cs=>simp only[nr,rBF]at h ⊢; exact fun x hx=>up1 x (h x hx)
  | func fn f c=>simp only[nr,rBF,rAQ]at h ⊢; exact⟨fun x hx=>up1 x (h.1 x hx),fun x hx=>up1 x (h.2 x hx)⟩
  | _=>first | rfl | (simp[nr]at h)
 cases d with
 | agg cs=>simp only[nr,rBF]at h ⊢; exact fun x hx=>up2 x (h x hx)
 | tup cs=>simp only[nr,rBF]at h ⊢; exact fun x hx=>up2 x (h x hx)
 | func fn f c=>simp only[nr,rBF,rAQ]at h ⊢; exact⟨fun x hx=>up2 x (h.1 x hx),fun x hx=>up2 x (h.2 x hx)⟩
 | _=>first | rfl | (simp[nr]at h)
theorem zOA{A':Nat->Prop}{κ1 κ2:Ka}{r key len:Nat}(hk:κ2 key=κ1 r){c:PV}(hc:c=.own 0 0 len\/nr 3 c=true){v:Value}(hv:RV w A' κ1 (rk1 r c) v):RV w A' κ2 (rk1 key c) v:=by
 rcases hc with rfl | hc
 .obtain⟨m,sz,cap,a,rfl,h1,hle,ha⟩:=RV.own_inv (show RV w A' κ1 (.own r 0 len) v from hv)
  exact .own key 0 len m sz cap a (by rw[hk]; exact h1) hle ha
 .have e:∀ q,rk1 q c=c:=fun q=>by cases c<;>first | rfl | (simp[nr]at hc)
  rw[e]at hv ⊢;exact RV.nr_any 3 c v hc hv
theorem uBP{A':Nat->Prop}{κ1 κ2:Ka}{r key:Nat}{b1:Blk}{res:PV}(hk:κ2 key=κ1 r)(ho:vJ9 b1 res){v:Value}(hv:RV w A' κ1 (rk r res) v):RV w A' κ2 (rk key res) v:=by
 rcases ho with ho | ⟨rfl,hne⟩
 rotate_left
 .obtain⟨m,sz,cap,rfl,h1⟩:=RV.ptr_inv (show RV w A' κ1 (.ptr r 0 0) v from hv)
  exact .ptr key 0 0 m sz cap (by rw[hk]; exact h1)
 have one:(∀ cs,res≠.agg cs)->(∀ cs,res≠.tup cs)->RV w A' κ2 (rk key res) v:=fun hn hn2=>by
  have e:∀ q,rk q res=rk1 q res:=fun q=>by cases res<;>first | rfl | exact absurd rfl (hn _) | exact absurd rfl (hn2 _)
  have e2:vCS res=[res]:=by cases res<;>first | rfl | exact absurd rfl (hn _) | exact absurd rfl (hn2 _)
  rw[e]at hv ⊢;exact zOA hk (ho.1 res (by rw[e2]; simp)) hv
 cases res with
 | tup cs =>
   obtain⟨vs,rfl,h1,h2⟩:=RV.tup_inv (show RV w A' κ1 (.tup (cs.map (rk1 r))) v from hv);refine .tup _ vs (by simpa using h1) (fun i d hd=>?_);simp only[rBR,rBI]at hd;obtain⟨c,hc,rfl⟩:=hd;exact zOA hk (ho.1 c (rAT hc)) (h2 i _ (by simp[hc]))
 | agg cs =>
   obtain⟨vs,rfl,h1,h2,h3⟩:=RV.agg_inv (show RV w A' κ1 (.agg (cs.map (rk1 r))) v from hv);refine .agg _ vs (by simpa using h1) (fun i d hd=>?_) (fun i hi=>h3 i (by simpa using hi));simp only[rBR,rBI]at hd;obtain⟨c,hc,rfl⟩:=hd;exact zOA hk (ho.1 c (rAT hc)) (h2 i _ (by simp[hc]))
 | _=>exact one (fun _ e=>by cases e) (fun _ e=>by cases e)
theorem uMC{A':Nat->Prop}{κ1:Ka}{r:Nat}{b1:Blk}{res:PV}(ho:vJ9 b1 res){v:Value}(hv:RV w A' κ1 (rk r res) v):∃ m sz cap,κ1 r=some (m,sz,cap):=by
 rcases ho with ho | ⟨rfl,hne⟩
 rotate_left
 .obtain⟨m,sz,cap,rfl,h1⟩:=RV.ptr_inv (show RV w A' κ1 (.ptr r 0 0) v from hv)
  exact⟨m,sz,cap,h1⟩
 have own:∀ {u:Value},RV w A' κ1 (.own r 0 b1.els.length) u->∃ m sz cap,κ1 r=some (m,sz,cap):=fun hu=>by
  obtain⟨m,sz,cap,a,_,h1,_⟩:=hu.own_inv; exact⟨m,sz,cap,h1⟩
 have hm:=ho.2;cases res with
 | agg cs =>
   obtain⟨vs,rfl,h1,h2,h3⟩:=RV.agg_inv (show RV w A' κ1 (.agg (cs.map (rk1 r))) v from hv);obtain⟨i,hi⟩:=List.mem_iff_getElem?.1 hm;simp only[vCS]at hi;exact own (h2 i (.own r 0 b1.els.length) (by simp[hi,rk1]))
 | tup cs =>
   obtain⟨vs,rfl,h1,h2⟩:=RV.tup_inv (show RV w A' κ1 (.tup (cs.map (rk1 r))) v from hv);obtain⟨i,hi⟩:=List.mem_iff_getElem?.1 hm;simp only[vCS]at hi;exact own (h2 i (.own r 0 b1.els.length) (by simp[hi,rk1]))
 | own a b c =>
   simp only[vCS,rBL]at hm;cases hm
   exact own hv
 | _=>simp[vCS]at hm
theorem vVC{A':Nat->Prop}{κ1 κ2:Ka}{key sz:Nat}{b1:Blk}{res:PV}(hk:κ2 key=some (0,sz,0))(h0:b1.els=[])(ho:vJ9 b1 res){v:Value}(hv:RV w A' κ1 (rkn res) v):RV w A' κ2 (rk key res) v:=by
 rcases ho with ho | ⟨rfl,hne⟩
 rotate_left
 .exact absurd h0 hne
 have one:∀ {c:PV} {u:Value},(c=.own 0 0 b1.els.length\/nr 3 c=true)->RV w A' κ1 (uFM c) u->RV w A' κ2 (rk1 key c) u:=fun {c u} hc hu=>by
  rcases hc with rfl | hc
  .rw[h0]
   rw[RV.nilsl_inv (show RV w A' κ1 .nilsl u from hu)];exact zEP hk none
  .have e:∀ q,rk1 q c=c:=fun q=>by cases c<;>first | rfl | (simp[nr]at hc)
   have e':uFM c=c:=by cases c<;>first | rfl | (simp[nr]at hc)
   rw[e']at hu; rw[e];exact RV.nr_any 3 c u hc hu
 have single:(∀ cs,res≠.agg cs)->(∀ cs,res≠.tup cs)->RV w A' κ2 (rk key res) v:=fun hn hn2=>by
  have e:rk key res=rk1 key res:=by cases res<;>first | rfl | exact absurd rfl (hn _) | exact absurd rfl (hn2 _)
  have e1:rkn res=uFM res:=by cases res<;>first | rfl | exact absurd rfl (hn _) | exact absurd rfl (hn2 _)
  have e2:vCS res=[res]:=by cases res<;>first | rfl | exact absurd rfl (hn _) | exact absurd rfl (hn2 _)
  rw[e]; rw[e1]at hv;exact one (ho.1 res (by rw[e2]; simp)) hv
 cases res with
 | tup cs =>
   obtain⟨vs,rfl,h1,h2⟩:=RV.tup_inv (show RV w A' κ1 (.tup (cs.map uFM)) v from hv);refine .tup _ vs (by simpa using h1) (fun i d hd=>?_);simp only[rBR,rBI]at hd;obtain⟨c,hc,rfl⟩:=hd;exact one (ho.1 c (rAT hc)) (h2 i _ (by simp[hc]))
 | agg cs =>
   obtain⟨vs,rfl,h1,h2,h3⟩:=RV.agg_inv (show RV w A' κ1 (.agg (cs.map uFM)) v from hv);refine .agg _ vs (by simpa using h1) (fun i d hd=>?_) (fun i hi=>h3 i (by simpa using hi));simp only[rBR,rBI]at hd;obtain⟨c,hc,rfl⟩:=hd;exact one (ho.1 c (rAT hc)) (h2 i _ (by simp[hc]))
 | _=>exact single (fun _ e=>by cases e) (fun _ e=>by cases e)
structure Framed(E:Env)(G:Gl)(w w':World)(A A':Nat->Prop)(κ κ':Ka)(h:Hp)(z:Fz)(q:Option (Nat×Blk))(ks:List Nat)(s':St)(ex:Nat->Prop):Prop where
 hr:HR E G w' A' κ (vEB h q) (vCI z ks)
 le:∀ b,A b->A' b
 cell:∀ b o,A b->w'.cell? ⟨b,o,none⟩=w.cell? ⟨b,o,none⟩
 zero:κ' 0=kOf κ (q.map (·.1)) 0
 blk:∀ r b,s'.h r=some b->κ' r≠none->∃ m cap,κ' r=some (m,b.sz,cap)/\b.els.length<=cap/\(∀ e∈b.els,e.cells.length=b.sz/\e.isAgg=b.agg) /\
  (cap=0\/∃ c ty,E.B<=m/\w'.heap[m]?=some (.cells c ty (0,0))/\c.size=cap * b.sz/\(∀ u∈c.toList,u.oneCell'=true)/\(∀ i e,b.els[i]?=some e->lies w' A' κ' c (i * b.sz) e)/\(s'.z r=false->¬ A' m)/\(s'.z r=true->A' m))
 own:∀ r b m sz cap,s'.h r=some b->κ' r=some (m,sz,cap)->cap≠0->s'.z r=false->w.heap.size<=m\/ex m
 ex1:∀ m,ex m->¬ E.S m/\¬ E.K m
 exk:∀ r b m s c,vEB h q r=some b->κ r=some (m,s,c)->c≠0->¬ ex m
theorem zQR(H:HR E G w A κ h z){n:Nat}{q:Option (Nat×Blk)}{args ds:List PV}{ks:List Nat}{K:PV->St->Prop}{f:FuncId}{vs:List Value}
 (hq:∀ r b,q=some (r,b)->h r=some b/\z r=false/\r∉ks/\nrs b) (hcv:vB6 (cv h n (q.map (·.1))) args=some (ds,ks)) (hargs:RVs w A κ args vs) (hF:FnH P G f ds K (vDJ (q.map (·.2)))) :
 Calls P f vs.toArray w fun e w'=>∃ v pv A' κ' s' ex,e=.returned v/\RV w' A' κ' pv v/\K pv s'/\Framed E G w w' A A' κ κ' h z q ks s' ex:=by
 have hkeys:∀ r∈ks,∃ b,h r=some b:=zER (fun _ _ _ e=>vIB e) hcv;have Hf:=H.freeze hkeys;let ex:Nat->Prop:=fun b'=>∃ r b sz cap,q=some (r,b)/\κ r=some (b',sz,cap)/\cap≠0
 have hzf:∀ r b,q=some (r,b)->vCI z ks r=false:=fun r b e=>by
  obtain⟨_,h2,h3,_⟩:=hq r b e;simp only[vCI,h2,rCO]
  simpa using h3
 have hex:∀ b',ex b'->¬ (A b'\/vBQ κ ks b')/\¬ E.S b'/\¬ E.K b'/\E.B<=b'/\∃ c ty,w.heap[b']?=some (.cells c ty (0,0)):=by
  rintro b' ⟨r,b,sz,cap,e,hκ,hc0⟩
  obtain⟨h1,h2,h3,h4⟩:=hq r b e;obtain⟨m,cap',g1,_,_,g4⟩:=Hf.blk r b h1 (by rw[hκ]; simp);rw[hκ]at g1; cases g1;obtain⟨c,ty,e1,e2,e3,e4,e5,e6,e7⟩:=g4.resolve_left hc0;have ho:=H.kp.own r b b' _ cap h1 hκ hc0 h2;exact⟨e6 (hzf r b e),ho.1,ho.2,e1,c,ty,e2⟩
 let K':Nat->Prop:=fun b=>b<w.heap.size/\¬ ex b
 let Es:Env:={ w0:=E.w0,w1:=w,B:=E.B,A0:=fun b=>A b\/vBQ κ ks b,n0:=1,κ0:=kOf κ (q.map (·.1)),ws:=w,K:=K',Z:=fun b=>K' b/\¬ (A b\/vBQ κ ks b),kw:=w }
 have h0:∀ r0 b,(vDJ (q.map (·.2))).h r0=some b->r0=0/\∃ r,q=some (r,b):=fun r0 b hb=>by
  cases q with
  | none=>simp[vDJ]at hb
  | some q =>
    obtain⟨r,b'⟩:=q;simp only[vDJ,Option.map_some,hset]at hb
    split at hb
    .rename_i e; cases hb; exact⟨e,r,rfl⟩
    .cases hb
 have Hs : HR Es G w (fun b=>A b\/vBQ κ ks b) (kOf κ (q.map (·.1))) (vDJ (q.map (·.2))).h (vDJ (q.map (·.2))).z:=by
  refine⟨H.bel,H.hB,Hf.alt,fun b hb=>hb,fun b hb=>rAW hb,fun _ _ _=>rfl,fun r hr=>rfl,fun g e hg=>?_,fun r m sz cap hr=>?_,⟨Below.refl _ _,fun b hb=>hb.elim,fun b hb=>hb.elim,fun r b m sz cap hr hκ hc hz'=>⟨id,?_⟩,fun D hD=>(by cases hD),rDV,Below.refl _ _,fun b hb=>⟨hb.1,rfl,id⟩,fun b hb=>⟨hb.1,hb.2,id⟩,fun D hD=>(by cases hD),fun hg=>(by cases hg)⟩,fun r0 b hr hκ=>?_,fun r r' b b' m m' s s' c c' hne hr hr'=>?_⟩
  .have:=Hf.gok g e hg
   exact RV.nr_any 3 _ _ rfl this
  .cases q with
   | none=>simp[kOf]at hr
   | some q =>
     simp only[kOf,Option.map_some]at hr
     split at hr
     .exact H.klt q.1 m sz cap hr
     .cases hr
  .obtain⟨rfl,r',e⟩:=h0 r b hr
   subst e;intro hK;exact hK.2 ⟨r',b,sz,cap,rfl,by simpa [kOf]using hκ,hc⟩
  .obtain⟨rfl,r',e⟩:=h0 r0 b hr
   subst e;obtain⟨h1,h2,h3,h4⟩:=hq r' b rfl;have hκ':κ r'≠none:=by simpa [kOf]using hκ
   obtain⟨m,cap,g1,g2,g3,g4⟩:=Hf.blk r' b h1 hκ';refine⟨m,cap,by simpa [kOf]using g1,g2,g3,?_⟩;rcases g4 with g4 | ⟨c,ty,e1,e2,e3,e4,e5,e6,e7⟩
   .exact rAW g4
   .refine rAZ ⟨c,ty,e1,e2,e3,e4,fun i e he j d hd=>?_,fun _=>e6 (hzf r' b rfl),fun hzt=>(by cases hzt)⟩
    obtain⟨v,p1,p2,p3⟩:=e5 i e he j d hd;refine⟨v,p1,?_,p3⟩;have hnr:=h4 e (rAT he)
    have hd3:nr 3 d=true:=by
     cases e<;>simp only[PV.cells]at hd<;>first
      | (cases j<;>simp at hd<;>subst hd<;>exact hnr)
      | (simp only[nr,rBF]at hnr
         have:=hnr d (rAT hd)
         exact uDH this)
    exact RV.nr_any 3 d v hd3 p2
  .obtain⟨rfl,_⟩:=h0 r b hr
   obtain⟨rfl,_⟩:=h0 r' b' hr';exact absurd rfl hne
 have hfresh:vDC 1 (kOf κ (q.map (·.1))) (vDJ (q.map (·.2))).h (vDJ (q.map (·.2))).z:=fun r hr=>by
  refine⟨?_,rfl,by simp[kOf]; omega⟩;cases hb:(vDJ (q.map (·.2))).h r with
  | none=>rfl
  | some b=>have:=(h0 r b hb).1; omega
 have hRV:RVs w (fun b=>A b\/vBQ κ ks b) (kOf κ (q.map (·.1))) ds vs:=by
  obtain⟨g1,g2⟩:=zCG hcv;refine⟨g1.trans hargs.1,fun i d hd=>?_⟩;obtain⟨x,ks',e1,e2,e3⟩:=g2 i d hd;exact uEB H (fun b hb=>rAW hb) (fun b ⟨r,hr,hb⟩=>rAZ ⟨r,e3 r hr,hb⟩) e2 (hargs.2 i x e1)
 refine(hF.2 Es w _ _ vs rfl rfl rfl rfl Hs hfresh hRV).mono fun e w' ⟨v,pv,A',κ',s',h1,h2,h3,_,h5,h6⟩=>?_
 have hb0:Below 0 w w':=h2.kp.kb;have hpres:∀ b,b<w.heap.size->¬ ex b->w'.heap[b]?=w.heap[b]?:=fun b hb hx=>(h2.kp.kk b ⟨hb,hx⟩).2.1
 have hA':∀ b,(A b\/vBQ κ ks b)->A' b:=h2.a0
 have hnew:∀ b,A' b->(A b\/vBQ κ ks b)\/w.heap.size<=b\/ex b:=fun b hb=>by
  rcases rCZ b w.heap.size with hlt | hge
  .by_cases hx:ex b
   .exact rAZ (rAZ hx)
   .by_cases hA:A b\/vBQ κ ks b
    .exact rAW hA
    .exact absurd hb (h2.kp.zk b ⟨⟨hlt,hx⟩,hA⟩).2.1
  .exact rAZ (rAW hge)
 have Hd:HR E G w (fun b=>A b\/vBQ κ ks b) κ (vEB h q) (vCI z ks):=by
  cases q with
  | none=>exact Hf
  | some q=>exact Hf.drop q.1
 have hdrop:∀ r b,vEB h q r=some b->h r=some b/\∀ r' b',q=some (r',b')->r≠r':=fun r b hb=>by
  cases q with
  | none=>exact⟨hb,fun _ _ e=>by cases e⟩
  | some q =>
    simp only[vEB,hset]at hb
    split at hb
    .cases hb
    .rename_i hne; exact⟨hb,fun r' b' e=>by cases e; exact hne⟩
 have hexk:∀ r b m s c,vEB h q r=some b->κ r=some (m,s,c)->c≠0->¬ ex m:=by
  rintro r b m s c hr hκ hc ⟨r',b',sz,cap,e,hκ',hc'⟩
  obtain⟨g1,g2⟩:=hdrop r b hr;exact H.excl r r' b b' m m s sz c cap (g2 r' b' e) g1 (hq r' b' e).1 hκ hκ' hc hc' rfl
 have Hw:=Hd.stepW hb0 h2.bel (ex:=ex) hpres hex hexk hA' hnew h2.alt;refine⟨v,pv,A',κ',s',ex,h1,h5,h6,Hw,fun b hA=>hA' b (rAW hA),fun b o hA=>cell?_of_heap (hpres b (H.alt b hA) fun hx=>(hex b hx).1 (rAW hA)) o,h2.k0 0 (by show 0<1; omega),h2.blk,fun r b m sz cap hb hk hc hz=>?_,fun m hm=>⟨(hex m hm).2.1,(hex m hm).2.2.1⟩,hexk⟩;rcases rCZ m w.heap.size with hlt | hge
 .right
  refine rCH fun hx=>?_
  exact(h2.kp.own r b m sz cap hb hk hc hz).2 ⟨hlt,hx⟩
 .exact rAW hge
theorem vV1(H:HR E G w A κ h z){key n:Nat}(hn:E.n0<=key)(hk:κ key=none)(hz:z key=false)(hhk:h key=none){q:Option (Nat×Blk)}{args ds:List PV}{ks:List Nat}{res:PV}{b1:Blk}{f:FuncId}{vs:List Value}
 (hq:∀ r b,q=some (r,b)->h r=some b/\z r=false/\r∉ks/\nrs b) (hcv:vB6 (cv h n (q.map (·.1))) args=some (ds,ks)) (hargs:RVs w A κ args vs) (hF:FnH P G f ds (uMO res b1) (vDJ (q.map (·.2)))) :
 Calls P f vs.toArray w fun e w'=>∃ v A' κ',e=.returned v/\HR E G w' A' κ' (hset (vEB h q) key (some b1)) (vCI z ks)/\RV w' A' κ' (rk key res) v/\(∀ r x,κ r=some x->κ' r=some x)/\(∀ r,r≠key->κ' r=κ r) /\
  (∀ b,A b->A' b)/\∀ b o,A b->w'.cell? ⟨b,o,none⟩=w.cell? ⟨b,o,none⟩:=by
 have hkeys:∀ r∈ks,∃ b,h r=some b:=zER (fun _ _ _ e=>vIB e) hcv;refine(zQR H hq hcv hargs hF).mono fun e w' ⟨v,pv,A',κ',s',ex,h1,h5,⟨hnrs,hok,h6⟩,FR⟩=>?_
 have Hw:=FR.hr
 have hkz:vCI z ks key=false:=by
  simp only[vCI,hz,rCO];simp only[rEY,rB5];intro hm;obtain⟨bk,hbk⟩:=hkeys key hm;rw[hhk]at hbk; cases hbk
 have hcellA:=FR.cell
 have empty:∀ {pv':PV},b1.els=[]->(∀ κ2 sz,κ2 key=some (0,sz,0)->RV w' A' κ2 (rk key res) v)->∃ v0 A2 κ2,e=.returned v0/\HR E G w' A2 κ2 (hset (vEB h q) key (some b1)) (vCI z ks)/\RV w' A2 κ2 (rk key res) v0/\(∀ r x,κ r=some x->κ2 r=some x)/\(∀ r,r≠key->κ2 r=κ r) /\
  (∀ b,A b->A2 b)/\∀ b o,A b->w'.cell? ⟨b,o,none⟩=w.cell? ⟨b,o,none⟩:=fun {_} he hv=>by
  have HE:=Hw.empty (key:=key) (sz:=b1.sz) (agg:=b1.agg) hn hk;have eb:b1=⟨[],b1.sz,b1.agg⟩:=by obtain⟨x,y,t⟩:=b1; dsimp only at he; subst he; rfl
  rw[eb];exact⟨v,A',vDO κ key (0,b1.sz,0),h1,HE,hv _ b1.sz (zA1 ..),zDL _ hk,fun r hr=>zAP κ _ hr,FR.le,hcellA⟩
 rcases h6 with⟨r',hpv,hb1,hz1⟩ | ⟨hpv,he⟩
 .subst hpv
  obtain⟨m',sz',cap',hκ'⟩:=uMC hok h5;obtain⟨m2,cap2,g1,g2,g3,g4⟩:=FR.blk r' b1 hb1 (by rw[hκ']; simp);rw[hκ']at g1; cases g1;by_cases hc0:cap'=0
  .subst hc0
   have he:b1.els=[]:=rA2.1 zom;have hok:uFZ b1 res:=hok.resolve_right fun e=>e.2 he
   refine empty (pv':=.any) he fun κ2 sz hκ2=>?_
   have own0:∀ {c:PV} {u:Value},(c=.own 0 0 b1.els.length\/nr 3 c=true)->RV w' A' κ' (rk1 r' c) u->RV w' A' κ2 (rk1 key c) u:=fun {c u} hc hu=>by
    rcases hc with rfl | hc
    .obtain⟨m,s,cp,a,rfl,q1,q2,q3⟩:=RV.own_inv (show RV w' A' κ' (.own r' 0 b1.els.length) u from hu)
     rw[hκ']at q1; cases q1;rw[he];exact zEP hκ2 a
    .have e:∀ q,rk1 q c=c:=fun q=>by cases c<;>first | rfl | (simp[nr]at hc)
     rw[e]at hu ⊢;exact RV.nr_any 3 c u hc hu
   have single:(∀ cs,res≠.agg cs)->(∀ cs,res≠.tup cs)->RV w' A' κ2 (rk key res) v:=fun hn hn2=>by
    have e:∀ q,rk q res=rk1 q res:=fun q=>by cases res<;>first | rfl | exact absurd rfl (hn _) | exact absurd rfl (hn2 _)
    have e2:vCS res=[res]:=by cases res<;>first | rfl | exact absurd rfl (hn _) | exact absurd rfl (hn2 _)
    rw[e]at h5 ⊢;exact own0 (hok.1 res (by rw[e2]; simp)) h5
   cases res with
   | agg cs =>
     obtain⟨us,rfl,p1,p2,p3⟩:=RV.agg_inv (show RV w' A' κ' (.agg (cs.map (rk1 r'))) v from h5);refine .agg _ us (by simpa using p1) (fun i d hd=>?_) (fun i hi=>p3 i (by simpa using hi));simp only[rBR,rBI]at hd;obtain⟨c,hc,rfl⟩:=hd;exact own0 (hok.1 c (rAT hc)) (p2 i _ (by simp[hc]))
   | tup cs =>
     obtain⟨us,rfl,p1,p2⟩:=RV.tup_inv (show RV w' A' κ' (.tup (cs.map (rk1 r'))) v from h5);refine .tup _ us (by simpa using p1) (fun i d hd=>?_);simp only[rBR,rBI]at hd;obtain⟨c,hc,rfl⟩:=hd;exact own0 (hok.1 c (rAT hc)) (p2 i _ (by simp[hc]))
   | _=>exact single (fun _ e=>by cases e) (fun _ e=>by cases e)
  .obtain⟨c,ty,e1,e2,e3,e4,e5,e6,e7⟩:=g4.resolve_left hc0
   have hm':=FR.own r' b1 m' _ cap' hb1 hκ' hc0 hz1
   have hSK:¬ E.S m'/\¬ E.K m':=by
    rcases hm' with hge | hx
    .exact⟨fun hS=>by have:=(H.kp.keep m' hS).1; omega,fun hK=>by have:=(H.kp.kk m' hK).1; omega⟩
    .exact FR.ex1 m' hx
   have HD:=Hw.adopt (key:=key) (sz:=b1.sz) (cap:=cap') (agg:=b1.agg) (els:=b1.els) hn hk hkz e2 e1 hSK (e6 hz1) (fun r b m3 s3 c3 hr hκr hc3 e=>by
    subst e;rcases hm' with hge | hx
    .rcases H.klt r m3 s3 c3 hκr with h | h
     .exact hc3 h
     .omega
    .exact FR.exk r b m3 s3 c3 hr hκr hc3 hx) e3 g2 g3 e4 (fun i x hx j d hd=>by
    obtain⟨u,p1,p2,p3⟩:=e5 i x hx j d hd;refine⟨u,p1,?_,p3⟩;have hnr:=hnrs x (rAT hx)
    have hd3:nr 3 d=true:=by
     cases x<;>simp only[PV.cells]at hd<;>first
      | (cases j<;>simp at hd<;>subst hd<;>exact hnr)
      | (simp only[nr,rBF]at hnr
         have:=hnr d (rAT hd)
         exact uDH this)
    exact RV.nr_any 3 d u hd3 p2)
   exact⟨v,A',vDO κ key (m',b1.sz,cap'),h1,HD,uBP (by rw[zA1,hκ']) hok h5,zDL _ hk,fun r hr=>zAP κ _ hr,FR.le,hcellA⟩
 .subst hpv
  exact empty (pv':=.any) he fun κ2 sz hκ2=>vVC hκ2 he hok h5
theorem HR.readd{r:Nat}(H:HR E G w A κ (hset h r none) z){b1:Blk}(hr0:0<r\/(E.gh=true->b1=vC6 E.gi))(hz:z r=false)
 (hb : κ r≠none->∃ m cap,κ r=some (m,b1.sz,cap)/\b1.els.length<=cap/\(∀ e∈b1.els,e.cells.length=b1.sz/\e.isAgg=b1.agg) /\
   (cap=0\/∃ c ty,E.B<=m/\w.heap[m]?=some (.cells c ty (0,0))/\c.size=cap * b1.sz/\(∀ u∈c.toList,u.oneCell'=true)/\(∀ i e,b1.els[i]?=some e->lies w A κ c (i * b1.sz) e)/\¬ A m/\¬ E.S m/\¬ E.K m /\
     ∀ r' b m' s c',hset h r none r'=some b->κ r'=some (m',s,c')->c'≠0->m'≠m)) :
 HR E G w A κ (hset h r (some b1)) z:=by
 have f:∀ p bp,p≠r->hset h r (some b1) p=some bp->hset h r none p=some bp:=fun p bp e hp=>by
  simpa only[hset,rAN e]using hp
 have own:∀ b m sz cap,hset h r (some b1) r=some b->κ r=some (m,sz,cap)->cap≠0->¬ A m/\¬ E.S m/\¬ E.K m/\∀ r' b m' s c',hset h r none r'=some b->κ r'=some (m',s,c')->c'≠0->m'≠m:=fun b m sz cap _ hk hc=>by
  obtain⟨m2,cap2,g1,_,_,g4⟩:=hb (by rw[hk]; simp);rw[hk]at g1; cases g1;obtain⟨c,ty,_,_,_,_,_,e6,e7,e8,e9⟩:=g4.resolve_left hc;exact⟨e6,e7,e8,e9⟩
 refine⟨H.bel,H.hB,H.alt,H.a0,H.a1,H.acell,H.k0,H.glob,H.klt,⟨H.kp.base,H.kp.keep,H.kp.wr,fun p b m sz cap hp hk hc hzp=>?_,H.kp.mks,H.kp.nd,H.kp.kb,H.kp.kk,H.kp.zk,H.kp.mk0,fun hg=>⟨(H.kp.gk hg).1,(H.kp.gk hg).2.1,fun b hb0=>by
  by_cases e0:(0:Nat)=r
  .subst e0
   simp only[hset,rCI]at hb0;cases hb0
   exact(hr0.resolve_left zom) hg
  .exact(H.kp.gk hg).2.2 b (f 0 b e0 hb0)⟩⟩,fun p b hp hκ=>?_,fun p p' b b' m m' s s' c c' hne hp hp' hk hk' hc hc'=>?_⟩
 .by_cases e:p=r
  .subst e; have:=own b m sz cap hp hk hc; exact⟨this.2.1,this.2.2.1⟩
  .exact H.kp.own p b m sz cap (f p b e hp) hk hc hzp
 .by_cases e:p=r
  .subst e
   simp only[hset,rCI]at hp;cases hp
   obtain⟨m,cap,g1,g2,g3,g4⟩:=hb hκ;refine⟨m,cap,g1,g2,g3,?_⟩;rcases g4 with g4 | ⟨c,ty,e1,e2,e3,e4,e5,e6,_⟩
   .exact rAW g4
   .exact rAZ ⟨c,ty,e1,e2,e3,e4,e5,fun _=>e6,fun hzt=>by rw[hz]at hzt; cases hzt⟩
  .exact H.blk p b (f p b e hp) hκ
 .by_cases e:p=r
  .subst e
   exact((own b m s c hp hk hc).2.2.2 p' b' m' s' c' (f p' b' (fun e=>hne e.symm) hp') hk' hc').symm
  .by_cases e':p'=r
   .subst e'
    exact(own b' m' s' c' hp' hk' hc').2.2.2 p b m s c (f p b e hp) hk hc
   .exact H.excl p p' b b' m m' s s' c c' hne (f p b e hp) (f p' b' e' hp') hk hk' hc hc'
theorem vXU(H:HR E G w A κ h z){n r:Nat}{b0 b1:Blk}{args ds:List PV}{ks:List Nat}{v0:PV}{f:FuncId}{vs:List Value}
 (hr:h r=some b0) (hz:z r=false) (hrk:r∉ks) (hn:nrs b0) (hr0:0<r\/b1=b0\/∀ i,b0≠vC6 i) (hcv:vB6 (cv h n (some r)) args=some (ds,ks)) (hargs:RVs w A κ args vs) (hF:FnH P G f ds (uM7 v0 b1) (vDJ (some b0))) :
 Calls P f vs.toArray w fun e w'=>∃ v A',e=.returned v/\HR E G w' A' κ (hset h r (some b1)) (vCI z ks)/\RV w' A' κ v0 v/\(∀ b,A b->A' b)/\∀ b o,A b->w'.cell? ⟨b,o,none⟩=w.cell? ⟨b,o,none⟩:=by
 refine(zQR H (q:=some (r,b0)) (K:=uM7 v0 b1) (fun r' b' e=>by cases e; exact⟨hr,hz,hrk,hn⟩) hcv hargs hF).mono fun e w' ⟨v,pv,A',κ',s',ex,h1,h5,⟨hpv,hnv,hb1,hz1,hnrs⟩,FR⟩=>?_
 subst hpv
 have hzf:vCI z ks r=false:=by
  simp only[vCI,hz,rCO]; simpa using hrk
 have h0:κ' 0=κ r:=by rw[FR.zero]; rfl
 refine⟨v,A',h1,HR.readd FR.hr (by
  by_cases h0r:0<r
  .exact rAW h0r
  .refine rAZ fun hg=>?_
   have e0:r=0:=by omega
   subst e0;have eb:=(H.kp.gk hg).2.2 b0 hr;rcases hr0.resolve_left h0r with e | e
   .rw[e]; exact eb
   .exact absurd eb (e _)) hzf fun hκ=>?_,RV.nr_any 3 _ _ hnv h5,FR.le,FR.cell⟩
 obtain⟨m,cap,g1,g2,g3,g4⟩:=FR.blk 0 b1 hb1 (by rw[h0]; exact hκ);refine⟨m,cap,by rw[<- h0]; exact g1,g2,g3,?_⟩;by_cases hc0:cap=0
 .exact rAW hc0
 obtain⟨c,ty,e1,e2,e3,e4,e5,e6,e7⟩:=g4.resolve_left hc0;have hm:=FR.own 0 b1 m _ cap hb1 g1 hc0 hz1;refine rAZ ⟨c,ty,e1,e2,e3,e4,fun i x hx j d hd=>?_,e6 hz1,?_,?_,fun r' b m' s c' hr' hk' hc' e=>?_⟩
 .obtain⟨u,p1,p2,p3⟩:=e5 i x hx j d hd
  refine⟨u,p1,?_,p3⟩;have hnr:=hnrs x (rAT hx)
  have hd3:nr 3 d=true:=by
   cases x<;>simp only[PV.cells]at hd<;>first
    | (cases j<;>simp at hd<;>subst hd<;>exact hnr)
    | (simp only[nr,rBF]at hnr
       have:=hnr d (rAT hd)
       exact uDH this)
  exact RV.nr_any 3 d u hd3 p2
 .rcases hm with hge | hx
  .exact fun hS=>by have:=(H.kp.keep m hS).1; omega
  .exact(FR.ex1 m hx).1
 .rcases hm with hge | hx
  .exact fun hK=>by have:=(H.kp.kk m hK).1; omega
  .exact(FR.ex1 m hx).2
 .subst e
  rcases hm with hge | hx
  .rcases H.klt r' m' s c' hk' with h | h
   .exact hc' h
   .omega
  .exact FR.exk r' b m' s c' hr' hk' hc' hx
end
open Go.RowKit
theorem vKD(rs:List Nat)(e:PV){m:Nat}(h:okE m e):(nmv rs e).cells.length=e.cells.length/\(nmv rs e).isAgg=e.isAgg:=by
 cases e<;>exact⟨rfl,rfl⟩
theorem zGT{rs0:List Nat}:∀ {rs:List Nat} {bs:List Blk} {h:Hp} {r:Nat},r∉rs->vE5 rs0 h rs bs r=h r
 | [],_,_,_,_=>by unfold vE5; rfl
 | _::_,[],_,_,_=>by unfold vE5; rfl
 | q::rs,b::bs,h,r,hr=>by
   unfold vE5;rw[zGT (fun hm=>hr (rA8 _ hm))];have:r≠q:=fun e=>hr (by rw[e]; simp)
   simp[hset,this]
theorem zNO{rs0:List Nat}:∀ {rs:List Nat} {bs:List Blk} {h:Hp},rs.Nodup->∀ {j:Nat} {b:Blk},bs[j]?=some b->j<rs.length->vE5 rs0 h rs bs (rs.getD j 0)=some (nmB rs0 b)
 | [],_,_,_,j,_,_,hj=>by simp at hj
 | _::_,[],_,_,_,_,hb,_=>by simp at hb
 | q :: rs,b::bs,h,hn,j,b',hb,hj=>by
   unfold vE5;obtain⟨h1,h2⟩:=rEL.1 hn;cases j with
   | zero =>
     simp only[List.getD_cons_zero,List.getElem?_cons_zero,rBU]at hb ⊢;subst hb;rw[zGT h1]; simp[hset]
   | succ j =>
     simp only[List.getD_cons_succ,List.getElem?_cons_succ]at hb ⊢;exact zNO h2 hb (by simpa using hj)
theorem vXR{rs:List Nat}(hn:rs.Nodup){i j:Nat}(hi:i<rs.length)(hj:j<rs.length)(hne:i≠j):rs.getD i 0≠rs.getD j 0:=by
 rw[rCE,rCE,rAR hi,rAR hj];simp only[Option.getD_some];exact fun e=>hne ((List.getElem_inj hn).1 e)
theorem vH5{rs:List Nat}{j:Nat}(hj:j<rs.length):rs.getD j 0∈rs:=by
 rw[rCE,rAR hj]; exact rB3 hj
theorem vHU{rs:List Nat}{r:Nat}(h:r∈rs):∃ j,j<rs.length/\rs.getD j 0=r:=by
 obtain⟨j,hj,rfl⟩:=rBD h;exact⟨j,hj,by rw[rCE,rAR hj]; rfl⟩
section
variable {P:Program} {E:Env} {G:Gl} {w w':World} {A:Nat->Prop} {κ:Ka} {h:Hp} {z:Fz}
theorem vHR{A':Nat->Prop}{κs:Ka}{rs:List Nat}{m:Nat}(hk:∀ j,j<m->κs j=κ (rs.getD j 0)){d:PV}(hd:okE m d){v:Value}(hv:RV w A' κ (nmv rs d) v):RV w A' κs d v:=by
 cases d with
 | own r off len =>
   obtain⟨b,sz,cap,a,rfl,h1,hle,ha⟩:=RV.own_inv (show RV w A' κ (.own (rs.getD r 0) off len) v from hv);exact .own r off len b sz cap a (by rw[hk r hd]; exact h1) hle ha
 | ptr r i off =>
   obtain⟨b,sz,cap,rfl,h1⟩:=RV.ptr_inv (show RV w A' κ (.ptr (rs.getD r 0) i off) v from hv);exact .ptr r i off b sz cap (by rw[hk r hd]; exact h1)
 | _=>exact RV.nr_any 3 _ _ hd hv
theorem uF2{A':Nat->Prop}{κs:Ka}{rs:List Nat}{m:Nat}(hk:∀ j,j<m->κs j=κ (rs.getD j 0)){d:PV}(hd:okE m d){v:Value}(hv:RV w A' κs d v):RV w A' κ (nmv rs d) v:=by
 cases d with
 | own r off len =>
   obtain⟨b,sz,cap,a,rfl,h1,hle,ha⟩:=hv.own_inv;exact .own (rs.getD r 0) off len b sz cap a (by rw[<- hk r hd]; exact h1) hle ha
 | ptr r i off =>
   obtain⟨b,sz,cap,rfl,h1⟩:=hv.ptr_inv;exact .ptr (rs.getD r 0) i off b sz cap (by rw[<- hk r hd]; exact h1)
 | _=>exact RV.nr_any 3 _ _ hd hv
theorem zOZ{e:PV}(h:nr 3 e=true){j:Nat}{d:PV}(hd:e.cells[j]?=some d):nr 3 d=true:=by
 cases e<;>simp only[PV.cells]at hd<;>first
  | (cases j<;>simp at hd<;>subst hd<;>exact h)
  | (simp only[nr,rBF]at h
     have:=h d (rAT hd)
     exact uDH this)
theorem vX3{A':Nat->Prop}{κs:Ka}{rs:List Nat}{m:Nat}(hk:∀ j,j<m->κs j=κ (rs.getD j 0)){e:PV}(he:okE m e){c:Array Value}{o:Nat}(hl:lies w A' κ c o (nmv rs e)):lies w A' κs c o e:=fun j d hd=>by
 cases e with
 | own r off len =>
   cases j with
   | zero =>
     simp only[PV.cells,List.getElem?_cons_zero,rBU]at hd;subst hd;obtain⟨v,p1,p2,p3⟩:=hl 0 (nmv rs (.own r off len)) rfl;exact⟨v,p1,vHR hk he p2,p3⟩
   | succ j=>simp[PV.cells]at hd
 | ptr r i off =>
   cases j with
   | zero =>
     simp only[PV.cells,List.getElem?_cons_zero,rBU]at hd;subst hd;obtain⟨v,p1,p2,p3⟩:=hl 0 (nmv rs (.ptr r i off)) rfl;exact⟨v,p1,vHR hk he p2,p3⟩
   | succ j=>simp[PV.cells]at hd
 | _ =>
   obtain⟨v,p1,p2,p3⟩:=hl j d hd;exact⟨v,p1,RV.nr_any 3 d v (zOZ he hd) p2,p3⟩
theorem uJL{A':Nat->Prop}{κs:Ka}{rs:List Nat}{m:Nat}(hk:∀ j,j<m->κs j=κ (rs.getD j 0)){e:PV}(he:okE m e){c:Array Value}{o:Nat}(hl:lies w A' κs c o e):lies w A' κ c o (nmv rs e):=fun j d hd=>by
 cases e with
 | own r off len =>
   cases j with
   | zero =>
     simp only[nmv,PV.cells,List.getElem?_cons_zero,rBU]at hd;subst hd;obtain⟨v,p1,p2,p3⟩:=hl 0 (.own r off len) rfl;exact⟨v,p1,uF2 hk he p2,p3⟩
   | succ j=>simp[nmv,PV.cells]at hd
 | ptr r i off =>
   cases j with
   | zero =>
     simp only[nmv,PV.cells,List.getElem?_cons_zero,rBU]at hd;subst hd;obtain⟨v,p1,p2,p3⟩:=hl 0 (.ptr r i off) rfl;exact⟨v,p1,uF2 hk he p2,p3⟩
   | succ j=>simp[nmv,PV.cells]at hd
 | _ =>
   obtain⟨v,p1,p2,p3⟩:=hl j d hd;exact⟨v,p1,RV.nr_any 3 d v (zOZ he hd) p2,p3⟩
theorem HR.less(H:HR E G w A κ h z){h0:Hp}(hs:∀ r b,h0 r=some b->h r=some b):HR E G w A κ h0 z :=
 ⟨H.bel,H.hB,H.alt,H.a0,H.a1,H.acell,H.k0,H.glob,H.klt,⟨H.kp.base,H.kp.keep,H.kp.wr,fun r b m sz cap hr=>H.kp.own r b m sz cap (hs r b hr),H.kp.mks,H.kp.nd,H.kp.kb,H.kp.kk,H.kp.zk,H.kp.mk0,fun hg=>⟨(H.kp.gk hg).1,(H.kp.gk hg).2.1,fun b hb=>(H.kp.gk hg).2.2 b (hs 0 b hb)⟩⟩,
   fun r b hb=>H.blk r b (hs r b hb),fun p q bp bq m m' s s' c c' hne hp hq=>H.excl p q bp bq m m' s s' c c' hne (hs p bp hp) (hs q bq hq)⟩
structure AddB(E:Env)(w:World)(A:Nat->Prop)(κ:Ka)(h0:Hp)(z:Fz)(r:Nat)(b:Blk):Prop where
 zf:z r=false
 g0:r=0->E.gh=true->b=vC6 E.gi
 blk : κ r≠none->∃ m cap,κ r=some (m,b.sz,cap)/\b.els.length<=cap/\(∀ e∈b.els,e.cells.length=b.sz/\e.isAgg=b.agg) /\
     (cap=0\/∃ c ty,E.B<=m/\w.heap[m]?=some (.cells c ty (0,0))/\c.size=cap * b.sz/\(∀ u∈c.toList,u.oneCell'=true)/\(∀ i e,b.els[i]?=some e->lies w A κ c (i * b.sz) e)/\¬ A m)
 own:∀ m sz cap,κ r=some (m,sz,cap)->cap≠0->¬ E.S m/\¬ E.K m/\∀ r' b' m' s c',h0 r'=some b'->κ r'=some (m',s,c')->c'≠0->m'≠m
theorem HR.addL(H:HR E G w A κ h z){h1:Hp}{rs:List Nat}(h0:∀ r b,h1 r=some b->(r∉rs/\h r=some b)\/(r∈rs/\AddB E w A κ h z r b))
 (hx:∀ r r' m m' s s' c c',r∈rs->r'∈rs->r≠r'->κ r=some (m,s,c)->κ r'=some (m',s',c')->c≠0->c'≠0->m≠m'):HR E G w A κ h1 z:=by
 refine⟨H.bel,H.hB,H.alt,H.a0,H.a1,H.acell,H.k0,H.glob,H.klt,⟨H.kp.base,H.kp.keep,H.kp.wr,fun p b m sz cap hp hk hc hzp=>?_,H.kp.mks,H.kp.nd,H.kp.kb,H.kp.kk,H.kp.zk,H.kp.mk0,fun hg=>⟨(H.kp.gk hg).1,(H.kp.gk hg).2.1,fun b hb0=>?_⟩⟩,fun p b hp hκ=>?_,fun p p' b b' m m' s s' c c' hne hp hp' hk hk' hc hc'=>?_⟩
 .rcases h0 p b hp with⟨_,q⟩ | ⟨_,q⟩
  .exact H.kp.own p b m sz cap q hk hc hzp
  .have:=q.own m sz cap hk hc; exact⟨this.1,this.2.1⟩
 .rcases h0 0 b hb0 with⟨_,q⟩ | ⟨_,q⟩
  .exact(H.kp.gk hg).2.2 b q
  .exact q.g0 rfl hg
 .rcases h0 p b hp with⟨_,q⟩ | ⟨_,q⟩
  .exact H.blk p b q hκ
  .obtain⟨m,cap,g1,g2,g3,g4⟩:=q.blk hκ
   refine⟨m,cap,g1,g2,g3,?_⟩;rcases g4 with g4 | ⟨c,ty,e1,e2,e3,e4,e5,e6⟩
   .exact rAW g4
   .exact rAZ ⟨c,ty,e1,e2,e3,e4,e5,fun _=>e6,fun hzt=>by rw[q.zf]at hzt; cases hzt⟩
 .rcases h0 p b hp with⟨n1,q⟩ | ⟨n1,q⟩
  .rcases h0 p' b' hp' with⟨n2,q'⟩ | ⟨n2,q'⟩
   .exact H.excl p p' b b' m m' s s' c c' hne q q' hk hk' hc hc'
   .exact(q'.own m' s' c' hk' hc').2.2 p b m s c q hk hc
  .rcases h0 p' b' hp' with⟨n2,q'⟩ | ⟨n2,q'⟩
   .exact((q.own m s c hk hc).2.2 p' b' m' s' c' q' hk' hc').symm
   .exact hx p p' m m' s s' c c' n1 n2 hne hk hk' hc hc'
theorem vYQ(H:HR E G w A κ h z){rs:List Nat}{bs bs':List Blk}{ds:List PV}{v0:PV}{f:FuncId}{vs:List Value}(hok:uJU h z rs bs bs' ds)(hargs:RVs w A κ (ds.map (nmv rs)) vs)(hF:FnH P G f ds (vD6 v0 bs') (vFU bs)) :
 Calls P f vs.toArray w fun e w'=>∃ v A',e=.returned v/\HR E G w' A' κ (vE5 rs h rs bs') z/\RV w' A' κ v0 v/\(∀ b,A b->A' b)/\∀ b o,A b->w'.cell? ⟨b,o,none⟩=w.cell? ⟨b,o,none⟩:=by
 obtain⟨hnd,hl1,hl2,hbs,ho1,ho2,hds⟩:=hok
 have hat:∀ j,j<rs.length->∃ b,bs[j]?=some b/\b∈bs/\h (rs.getD j 0)=some (nmB rs b)/\z (rs.getD j 0)=false/\(0<rs.getD j 0\/∀ i,nmB rs b≠vC6 i):=fun j hj=>by
  have e:bs[j]?=some bs[j]:=rAR zom;obtain⟨g1,g2,g3⟩:=hbs j _ e;exact⟨_,e,rB3 _,g1,g2,g3⟩
 have hmem:∀ r∈rs,∃ j b,j<rs.length/\rs.getD j 0=r/\bs[j]?=some b/\b∈bs/\h r=some (nmB rs b)/\z r=false/\(0<r\/∀ i,nmB rs b≠vC6 i):=fun r hr=>by
  obtain⟨j,hj,rfl⟩:=vHU hr;obtain⟨b,g1,g2,g3⟩:=hat j hj;exact⟨j,b,hj,rfl,g1,g2,g3⟩
 let ex:Nat->Prop:=fun b'=>∃ r sz cap,r∈rs/\κ r=some (b',sz,cap)/\cap≠0
 have hex:∀ b',ex b'->¬ A b'/\¬ E.S b'/\¬ E.K b'/\E.B<=b'/\∃ c ty,w.heap[b']?=some (.cells c ty (0,0)):=by
  rintro b' ⟨r,sz,cap,hr,hκ,hc0⟩
  obtain⟨j,b,hj,e,_,_,h1,h2,_⟩:=hmem r hr;obtain⟨m,cap',g1,_,_,g4⟩:=H.blk r _ h1 (by rw[hκ]; simp);rw[hκ]at g1; cases g1;obtain⟨c,ty,e1,e2,e3,e4,e5,e6,e7⟩:=g4.resolve_left hc0;have ho:=H.kp.own r _ b' _ cap h1 hκ hc0 h2;exact⟨e6 h2,ho.1,ho.2,e1,c,ty,e2⟩
 let κs:Ka:=fun j=>if j<rs.length then κ (rs.getD j 0) else none
 have hκs:∀ j,j<rs.length->κs j=κ (rs.getD j 0):=fun j hj=>by simp only[κs,rAV hj]
 let K':Nat->Prop:=fun b=>b<w.heap.size/\¬ ex b
 let Es:Env:={ w0:=E.w0,w1:=w,B:=E.B,A0:=A,n0:=bs.length,κ0:=κs,ws:=w,K:=K',Z:=fun b=>K' b/\¬ A b,kw:=w }
 have h0:∀ j b,(vFU bs).h j=some b->j<rs.length/\bs[j]?=some b/\b∈bs/\h (rs.getD j 0)=some (nmB rs b)/\z (rs.getD j 0)=false:=fun j b hb=>by
  have hb':bs[j]?=some b:=hb;have hj:j<rs.length:=by have:=(rAP.1 hb').1; omega
  obtain⟨g1,g2,_⟩:=hbs j b hb';exact⟨hj,hb',rAT hb',g1,g2⟩
 have Hs:HR Es G w A κs (vFU bs).h (vFU bs).z:=by
  refine⟨H.bel,H.hB,H.alt,fun b hb=>hb,fun b hb=>rAW hb,fun _ _ _=>rfl,fun r hr=>rfl,fun g e hg=>?_,fun r m sz cap hr=>?_,⟨Below.refl _ _,fun b hb=>hb.elim,fun b hb=>hb.elim,fun r b m sz cap hr hκ hc hz'=>⟨id,?_⟩,fun D hD=>(by cases hD),rDV,Below.refl _ _,fun b hb=>⟨hb.1,rfl,id⟩,fun b hb=>⟨hb.1,hb.2,id⟩,fun D hD=>(by cases hD),fun hg=>(by cases hg)⟩,fun r0 b hr hκ=>?_,fun r r' b b' m m' s s' c c' hne hr hr' hk hk' hc hc'=>?_⟩
  .exact RV.nr_any 3 _ _ rfl (H.gok g e hg)
  .by_cases hj:r<rs.length
   .rw[hκs r hj]at hr; exact H.klt _ m sz cap hr
   .simp only[κs,rAN hj]at hr; cases hr
  .obtain⟨hj,_⟩:=h0 r b hr
   rw[hκs r hj]at hκ;exact fun hK=>hK.2 ⟨_,sz,cap,vH5 hj,hκ,hc⟩
  .obtain⟨hj,_,hbm,h1,h2⟩:=h0 r0 b hr
   rw[hκs r0 hj]at hκ;obtain⟨m,cap,g1,g2,g3,g4⟩:=H.blk _ _ h1 hκ;refine⟨m,cap,by rw[hκs r0 hj]; exact g1,by simpa [nmB]using g2,fun e he=>?_,?_⟩
   .have:=g3 (nmv rs e) (rA5.2 ⟨e,he,rfl⟩)
    obtain⟨c1,c2⟩:=vKD rs e (ho1 b hbm e he);rw[c1,c2]at this; exact this
   .rcases g4 with g4 | ⟨c,ty,e1,e2,e3,e4,e5,e6,e7⟩
    .exact rAW g4
    .refine rAZ ⟨c,ty,e1,e2,e3,e4,fun i e he=>?_,fun _=>e6 h2,fun hzt=>(by cases hzt)⟩
     exact vX3 hκs (ho1 b hbm e (rAT he)) (e5 i (nmv rs e) (by simp[nmB,he]))
  .obtain⟨hj,_,_,h1,_⟩:=h0 r b hr
   obtain⟨hj',_,_,h1',_⟩:=h0 r' b' hr';rw[hκs r hj]at hk;rw[hκs r' hj']at hk';exact H.excl _ _ _ _ m m' s s' c c' (vXR hnd hj hj' hne) h1 h1' hk hk' hc hc'
 have hfresh:vDC bs.length κs (vFU bs).h (vFU bs).z:=fun r hr=>by
  refine⟨?_,rfl,by simp only[κs,rAN (show ¬ r<rs.length by omega)]⟩;show bs[r]?=none
  exact rC0 hr
 have hRV:RVs w A κs ds vs:=by
  refine⟨by have:=hargs.1; simpa using this,fun i d hd=>?_⟩;exact vHR hκs (hds d (rAT hd)) (hargs.2 i (nmv rs d) (by simp[hd]))
 refine(hF.2 Es w _ _ vs rfl rfl rfl rfl Hs hfresh hRV).mono fun e w' ⟨v,pv,A',κ',s',h1,h2,h3,_,h5,hpv,hnr,hK⟩=>?_
 subst hpv;have hb0:Below 0 w w':=h2.kp.kb;have hpres:∀ b,b<w.heap.size->¬ ex b->w'.heap[b]?=w.heap[b]?:=fun b hb hx=>(h2.kp.kk b ⟨hb,hx⟩).2.1
 have hA':∀ b,A b->A' b:=h2.a0
 have hnew:∀ b,A' b->A b\/w.heap.size<=b\/ex b:=fun b hb=>by
  rcases rCZ b w.heap.size with hlt | hge
  .by_cases hx:ex b
   .exact rAZ (rAZ hx)
   .by_cases hA:A b
    .exact rAW hA
    .exact absurd hb (h2.kp.zk b ⟨⟨hlt,hx⟩,hA⟩).2.1
  .exact rAZ (rAW hge)
 let hd:Hp:=fun r=>if r∈rs then none else h r
 have hds':∀ r b,hd r=some b->r∉rs/\h r=some b:=fun r b hb=>by
  simp only[hd]at hb
  split at hb
  .cases hb
  .rename_i hn; exact⟨hn,hb⟩
 have Hd:HR E G w A κ hd z:=H.less fun r b hb=>(hds' r b hb).2
 have hexk:∀ r b m s c,hd r=some b->κ r=some (m,s,c)->c≠0->¬ ex m:=by
  rintro r b m s c hr hκ hc ⟨r',sz,cap,hr',hκ',hc'⟩
  obtain⟨g1,g2⟩:=hds' r b hr;obtain⟨j,b',hj,e',_,_,h1',_⟩:=hmem r' hr';exact H.excl r r' _ _ m m s sz c cap (fun e=>g1 (by rw[e]; exact hr')) g2 h1' hκ hκ' hc hc' rfl
 have Hw:=Hd.stepW hb0 h2.bel (ex:=ex) hpres hex hexk hA' hnew h2.alt;have hk0:∀ j,j<rs.length->κ' j=κ (rs.getD j 0):=fun j hj=>by rw[h2.k0 j (by show j<bs.length; omega)]; exact hκs j hj
 have hadd:HR E G w' A' κ (vE5 rs h rs bs') z:=by
  refine Hw.addL (rs:=rs) (fun r b hb=>?_) (fun r r' m m' s s' c c' hr hr' hne hk hk' hc hc'=>?_)
  .by_cases hr:r∈rs
   .refine rAZ ⟨hr,?_⟩
    obtain⟨j,b0,hj,e,_,_,g1,g2,g3⟩:=hmem r hr;subst e;have eb':bs'[j]?=some bs'[j]:=rAR zom;rw[zNO hnd eb' hj]at hb;cases hb
    obtain⟨k1,k2⟩:=hK j _ eb';have hbm:bs'[j]∈bs':=rB3 _;refine⟨g2,fun e0 hg=>?_,fun hκ=>?_,fun m sz cap hk hc=>?_⟩
    .have e1:=(H.kp.gk hg).2.2 _ (by rw[<- e0]; exact g1)
     rcases g3 with g3 | g3
     .omega
     .exact absurd e1 (g3 _)
    .obtain⟨m,cap,q1,q2,q3,q4⟩:=h2.blk j _ k1 (by rw[hk0 j hj]; exact hκ)
     refine⟨m,cap,by rw[<- hk0 j hj]; exact q1,by simpa [nmB]using q2,fun e he=>?_,?_⟩
     .obtain⟨e',he',rfl⟩:=rA5.1 he
      obtain⟨c1,c2⟩:=vKD rs e' (ho2 _ hbm e' he');rw[c1,c2]; exact q3 e' he'
     .rcases q4 with q4 | ⟨c,ty,e1,e2,e3,e4,e5,e6,e7⟩
      .exact rAW q4
      .refine rAZ ⟨c,ty,e1,e2,e3,e4,fun i e he=>?_,e6 k2⟩
       simp only[nmB,rBR,rBI]at he;obtain⟨e',he',rfl⟩:=he;exact uJL hk0 (ho2 _ hbm e' (rAT he')) (e5 i e' he')
    .have hx:ex m:=⟨_,sz,cap,hr,hk,hc⟩
     obtain⟨_,x2,x3,_⟩:=hex m hx;refine⟨x2,x3,fun r' b' m' s c' hr' hκ' hc' e=>?_⟩;subst e;exact hexk r' b' m' s c' hr' hκ' hc' hx
   .refine rAW ⟨hr,?_⟩
    rw[zGT hr]at hb;show(if r∈rs then none else h r)=some b
    rw[rAN hr]; exact hb
  .obtain⟨j,b0,hj,e,_,_,g1,_⟩:=hmem r hr
   obtain⟨j',b0',hj',e',_,_,g1',_⟩:=hmem r' hr';exact H.excl r r' _ _ m m' s s' c c' hne g1 g1' hk hk' hc hc'
 exact⟨v,A',h1,hadd,RV.nr_any 3 _ _ hnr h5,hA',fun b o hA=>cell?_of_heap (hpres b (H.alt b hA) fun hx=>(hex b hx).1 hA) o⟩
end
open Go.RowKit
theorem callsIn_wd{ro:Option Nat}{n:Nat}{P:Program}{f:FuncId}{args:Array Value}{w:World}{R:Ending->World->Prop}:CallsIn (Wd ro) n P f args w R↔Calls P f args w R :=
 (Iff.rfl:CallsIn (Wd ro) n P f args w R↔CallsIn Fence.wide n P f args w R).trans callsIn_wide
theorem FnH.mono{P:Program}{G:Gl}(f:FuncId)(args:List PV)(J J':PV->St->Prop)(s:St)(h:∀ v s,J v s->J' v s)(hf:FnH P G f args J s):FnH P G f args J' s :=
 ⟨hf.1,fun E w A κ vs h1 h2 h3 h4 h5 h6 h7=>(hf.2 E w A κ vs h1 h2 h3 h4 h5 h6 h7).mono fun _ _ ⟨v,pv,A',κ',s',g1,g2,g3,g4,g5,g6⟩=>⟨v,pv,A',κ',s',g1,g2,g3,g4,g5,h _ _ g6⟩⟩
theorem CRes.isGh_elim:∀ {r:CRes},r.isGh=true->∃ i j b,r=.gh i j b
 | .gh i j b,_=>⟨i,j,b,rfl⟩
def uKD(v:PV)(args:List PV)(f:Nat)(pre rest:List PV)(r:CRes):Prop :=
 (∃ first captured,v=.func (.func f) first captured/\pre=[]/\rest=first++args++captured)\/(v=.func (.yield f) [] []/\pre=[.anyb]/\rest=args/\r.isGh=true)
structure XOk(P:Program)(G:Gl)(C:vA8)(X:Env->Prop):Prop where
 anch:∀ E F,X E->F.gh=E.gh->X (E.re F)
 call:∀ f ds r,r.isGh=false->C f ds r->FnC P G f ds r
 prod:∀ f ds i j b,C f ds (.gh i j b)->(∀ ds',ds≠.anyb::ds')->callable P f=true/\∀ (E:Env) (w:World) (A:Nat->Prop) (κ:Ka) (h:Hp) (z:Fz) (vs:List Value),X E->HR E G w A κ h z->h 0=some (vC6 i)->RDs w A ds vs ->
  Calls P f vs.toArray w fun e w'=>∃ E',(X E'/\E'.re E=E'/\E'.M=E.M)/\e=.returned (.bool b)/\HR E' G w' A κ (hset h 0 (some (vC6 j))) z/\∀ b o,A b->w'.cell? ⟨b,o,none⟩=w.cell? ⟨b,o,none⟩
 yld:∀ l ds i j b,C l (.anyb::ds) (.gh i j b)->∀ (E:Env) (w:World) (A:Nat->Prop) (κ:Ka) (h:Hp) (z:Fz) (vs:List Value),X E->HR E G w A κ h z->h 0=some (vC6 i)->RDs w A ds vs ->
  vF5 P l vs.toArray w fun e w'=>∃ E',(X E'/\E'.re E=E'/\E'.M=E.M)/\e=.returned (.bool b)/\HR E' G w' A κ (hset h 0 (some (vC6 j))) z/\∀ b o,A b->w'.cell? ⟨b,o,none⟩=w.cell? ⟨b,o,none⟩
def opD(P:Program)(G:Gl)(C:vA8)(key:Nat)(o:Oper)(s:St)(fp:FP)(v:PV)(h':Hp)(z':Fz):Prop :=
 match o.op with
 | .call { callee:=.value g,args,argTypes:=_ } =>
   (∃ f pre rest n ds r,uKD (ev G s.t g) (args.toList.map (ev G s.t)) f pre rest r/\vB6 (frz s.h n) rest=some (ds,fp.fz)/\C f (pre++ds) r/\r.ok s.h /\
     v=r.val key/\h'=r.heap key s.h/\z'=vCI s.z fp.fz/\fp.rd=r.rds++fp.fz/\fp.wr=r.keys key) \/
   (∃ f first captured n ds q res b1,ev G s.t g=.func (.func f) first captured/\vB6 (cv s.h n (q.map (·.1))) (first++args.toList.map (ev G s.t)++captured)=some (ds,fp.fz)/\C f ds (.own (q.map (·.2)) res b1) /\
     (∀ r b,q=some (r,b)->s.h r=some b/\s.z r=false/\r∉fp.fz/\nrs b) /\
     v=rk key res/\h'=hset (vEB s.h q) key (some b1)/\z'=vCI s.z fp.fz/\fp.rd=uAQ q++fp.fz/\fp.wr=uAQ q++[key]) \/
   (∃ f first captured n ds r b0 v0 b1,ev G s.t g=.func (.func f) first captured/\vB6 (cv s.h n (some r)) (first++args.toList.map (ev G s.t)++captured)=some (ds,fp.fz)/\C f ds (.wrt b0 v0 b1) /\
     (s.h r=some b0/\s.z r=false/\r∉fp.fz/\nrs b0/\(0<r\/b1=b0\/∀ i,b0≠vC6 i)) /\
     v=v0/\h'=hset s.h r (some b1)/\z'=vCI s.z fp.fz/\fp.rd=r::fp.fz/\fp.wr=[r]) \/
   (∃ f first captured ds rs bs v0 bs',ev G s.t g=.func (.func f) first captured/\first++args.toList.map (ev G s.t)++captured=ds.map (nmv rs)/\C f ds (.frm bs v0 bs')/\uJU s.h s.z rs bs bs' ds /\
     v=v0/\h'=vE5 rs s.h rs bs'/\z'=vCI s.z fp.fz/\fp.fz=[]/\fp.rd=rs/\fp.wr=rs)
 | op=>vA4 P G s.z key op s.t s.h=some (v,h',fp.rd,fp.wr)/\z'=s.z/\fp.fz=[]
section
variable {P:Program} {E:Env} {G:Gl} {w:World} {A:Nat->Prop} {κ:Ka} {s:St} {a:Act} {o:Oper} {key:Nat} {v:PV} {h':Hp} {z':Fz} {fp:FP} {ro:Option Nat} {n:Nat}
def After(X:Env->Prop)(E:Env)(G:Gl)(w:World)(A:Nat->Prop)(κ:Ka)(key:Nat)(h':Hp)(z':Fz)(v:PV)(next:Value->World->Prop):Prop :=
 ∀ E' w' A' κ' v',(X E'/\E'.re E=E'/\E'.M=E.M)->HR E' G w' A' κ' h' z'->RV w' A' κ' v v'->(∀ r x,κ r=some x->κ' r=some x)->(∀ r,r≠key->κ' r=κ r)->(∀ b,A b->A' b)->(∀ b o,A b->w'.cell? ⟨b,o,none⟩=w.cell? ⟨b,o,none⟩)->next v' w'
theorem zEJ(o:Oper)(h:∀ c,o.op≠.defer c)(ρ:Operand->Value):o.semAt ro ρ=execOp ρ o:=Oper.semAt_eq ro ρ o h
theorem vGP{X:Env->Prop}(hX:X E)(hd:∀ c,o.op≠.defer c)(hs:Sound E G w A κ z' h' key v ((execOp a.eval o).run P w)){next:Act->World->Prop}{Q:Exit->Act->World->Prop}
 (hn:After X E G w A κ key h' z' v fun v' w'=>next (a.put o.dst v') w'):Oper.wpIn (Wd ro) n P o a w next Q:=by
 obtain⟨v',w',κ',hr,h1,h2,h3,h4,h5⟩:=hs;refine⟨fun _ _=>trivial,?_⟩;rw[zEJ o hd];have:=hn E w' A κ' v' ⟨hX,rfl,rfl⟩ h1 h2 h3 h4 (fun _ h=>h) h5;rcases hr with hr | ⟨hr,rfl⟩
 .rw[hr]; exact this
 .rw[hr]; exact this
theorem zCA{l l':List PV}{vs vs':List Value}(h1:RVs w A κ l vs)(h2:RVs w A κ l' vs'):RVs w A κ (l++l') (vs++vs'):=by
 refine⟨by simp[h1.1,h2.1],fun i d hd=>?_⟩;by_cases hi:i<l.length
 .rw[rBY hi]at hd
  have:=h1.2 i d hd;simp only[List.getD]at this ⊢;rw[rBY (by rw[<- h1.1]; exact hi)];exact this
 .rw[rBZ zom]at hd
  have:=h2.2 _ d hd;simp only[List.getD]at this ⊢;rw[rBZ (by rw[<- h1.1]; omega),<- h1.1];exact this
theorem zCL{l:List PV}{vs:Array Value}(hl:vs.size=l.length)(h:∀ i d,l[i]?=some d->RV w A κ d (vs.getD i undef)):RVs w A κ l vs.toList :=
 ⟨by simp[hl],fun i d hd=>by have:=h i d hd; simpa [List.getD,rBE]using this⟩
theorem zLS{l:List Operand}{t:Tm}{ρ:Operand->Value}(h:∀ x∈l,RV w A κ (ev G t x) (ρ x)):RVs w A κ (l.map (ev G t)) (l.map ρ):=by
 refine⟨zsm,fun i d hd=>?_⟩;simp only[rBR,rBI]at hd;obtain⟨x,hx,rfl⟩:=hd;have:=h x (rAT hx)
 simpa [List.getD,hx]using this
theorem zFP{f:FuncId}{g:Operand}{args:Array Operand}{ts:Array TypeId}{fs cs:Array Value}(hf:callable P f=true)(ho:o.op=.call { callee:=.value g,args,argTypes:=ts })(hg:a.eval g=.func (.func f) fs cs) :
 (execOp a.eval o).run P w=.ok (.enter f (fs++args.map a.eval++cs)) w:=by
 unfold callable at hf;cases hfn:P.funcs[f]? with
 | none=>simp[hfn]at hf
 | some fn =>
   simp only[hfn,rAQ,rEP,ne_eq]at hf;obtain⟨c,hc⟩:=rCC.1 hf.1;simp[execOp,ho,resolve,hg,Deferred.ofValue,invoke,callFunc,hfn,hf.2,hc]
theorem vTO{l:Nat}{g:Operand}{args:Array Operand}{ts:Array TypeId}{r:Next}(ho:o.op=.call { callee:=.value g,args,argTypes:=ts })(hg:a.eval g=.func (.yield l) #[] #[])
 (hy:(Instr.yield l (args.map a.eval)).run P w=.ok r w):(execOp a.eval o).run P w=.ok r w:=by
 simp[execOp,ho,resolve,hg,Deferred.ofValue,invoke];exact hy
theorem upon_enter{f:FuncId}{args:Array Value}{next:Act->World->Prop}{Q:Exit->Act->World->Prop}{R:Value->World->Prop}(h:Calls P f args w fun e w'=>∃ v,e=.returned v/\R v w')(hn:∀ v w',R v w'->next (a.put o.dst v) w') :
 o.uponIn (Wd ro) n P a next Q (.ok (.enter f args) w):=by
 refine⟨fun hh=>(by cases hh),callsIn_wd.2 (h.mono fun e w' hh=>?_)⟩;obtain⟨v,rfl,hr⟩:=hh;exact hn v w' hr
theorem zNQ(H:HR E G w A κ s.h s.z){m:Nat}{l ds:List PV}{ks:List Nat}{vs:List Value}(hm:vB6 (frz s.h m) l=some (ds,ks))(hv:RVs w A κ l vs):RDs w (fun b=>A b\/vBQ κ ks b) ds vs:=by
 obtain⟨g1,g2⟩:=zCG hm;refine⟨g1.trans hv.1,fun i d hd=>?_⟩;obtain⟨x,ks',e1,e2,e3⟩:=g2 i d hd;exact zFN H (fun b hb=>rAW hb) m x d _ ks' e2 (hv.2 i x e1) (fun b ⟨r,hr,q⟩=>rAZ ⟨r,e3 r hr,q⟩)
theorem uHB{X Y:Nat->Prop}{lo hi m:Nat}(b:Nat)(hb:(X b\/Y b)\/(lo<=b/\b<hi/\b≠m)):(X b\/Y b)\/(lo<=b/\b<hi/\b≠m):=hb
theorem vV8 {C:vA8} {X:Env->Prop} (hC:XOk P G C X) (hX:X E) (H:HR E G w A κ s.h s.z) (hn:E.n0<=key) (hk:κ key=none) (hz:s.z key=false) (hhk:s.h key=none) (hx:OkOp G w A κ s.t a.eval o.op)
 (hd:opD P G C key o s fp v h' z') {next:Act->World->Prop} {Q:Exit->Act->World->Prop} (hnext:After X E G w A κ key h' z' v fun v' w'=>next (a.put o.dst v') w') :
 Oper.wpIn (Wd ro) n P o a w next Q:=by
 unfold opD at hd
 split at hd
 .rename_i g args ts ho
  rcases hd with⟨f,pre,rest,m,ds,r,hcal,hfr,hCf,hok,rfl,rfl,rfl,hrd,hwr⟩ | ⟨f,first,captured,m,ds,q,res,b1,hev,hcv,hCf,hq,rfl,rfl,rfl,hrd,hwr⟩ | ⟨f,first,captured,m,ds,q,b0,v0,b1,hev,hcv,hCf,hq,hv0,rfl,rfl,hrd,hwr⟩ | ⟨f,first,captured,ds,rs,bs,v0,bs',hev,heq,hCf,hok,hv0,rfl,rfl,hfz,hrd,hwr⟩
  rotate_left 3
  .subst hv0
   have hargs0:RVs w A κ (args.toList.map (ev G s.t)) (args.map a.eval).toList:=by
    rw[rEB];exact zLS fun x hxm=>hx x (by rw[ho]; simp[Op.operands,Call.operands]; exact rAZ (by simpa using hxm))
   have hgv:RV w A κ (ev G s.t g) (a.eval g):=hx g (by rw[ho]; simp[Op.operands,Call.operands]);have hg:RV w A κ (.func (.func f) first captured) (a.eval g):=by rw[<- hev]; exact hgv
   obtain⟨fs,cs,hρ,hl1,hl2,hf1,hf2⟩:=hg.func_inv
   have hargs:RVs w A κ (first++args.toList.map (ev G s.t)++captured) (fs++args.map a.eval++cs).toList:=by
    rw[rCJ,rCJ];exact zCA (zCA (zCL hl1 hf1) hargs0) (zCL hl2 hf2)
   rw[heq]at hargs;have hC1:=hC.call f ds (.frm bs v bs') rfl hCf;refine⟨fun _ _=>trivial,?_⟩;rw[zEJ o (by rw[ho]; simp),zFP hC1.1 ho hρ];have hcall:=vYQ H hok hargs hC1.2;rw[Array.toArray_toList]at hcall;have ez:vCI s.z fp.fz=s.z:=by rw[hfz]; funext r; simp[vCI]
   rw[ez]at hnext;refine upon_enter (R:=fun u w'=>∃ A',HR E G w' A' κ (vE5 rs s.h rs bs') s.z/\RV w' A' κ v u/\(∀ b,A b->A' b)/\∀ b o,A b->w'.cell? ⟨b,o,none⟩=w.cell? ⟨b,o,none⟩) (hcall.mono fun e w' ⟨u,A',h1,h2⟩=>⟨u,h1,A',h2⟩) fun v' w' ⟨A',h1,h2,h5,h6⟩=>?_
   exact hnext E w' A' κ v' ⟨hX,rfl,rfl⟩ h1 h2 (fun _ _ h=>h) (fun _ _=>rfl) h5 h6
  rotate_left 2
  .subst hv0
   have hargs0:RVs w A κ (args.toList.map (ev G s.t)) (args.map a.eval).toList:=by
    rw[rEB];exact zLS fun x hxm=>hx x (by rw[ho]; simp[Op.operands,Call.operands]; exact rAZ (by simpa using hxm))
   have hgv:RV w A κ (ev G s.t g) (a.eval g):=hx g (by rw[ho]; simp[Op.operands,Call.operands]);have hg:RV w A κ (.func (.func f) first captured) (a.eval g):=by rw[<- hev]; exact hgv
   obtain⟨fs,cs,hρ,hl1,hl2,hf1,hf2⟩:=hg.func_inv
   have hargs:RVs w A κ (first++args.toList.map (ev G s.t)++captured) (fs++args.map a.eval++cs).toList:=by
    rw[rCJ,rCJ];exact zCA (zCA (zCL hl1 hf1) hargs0) (zCL hl2 hf2)
   have hC1:=hC.call f ds (.wrt b0 v b1) rfl hCf;refine⟨fun _ _=>trivial,?_⟩;rw[zEJ o (by rw[ho]; simp),zFP hC1.1 ho hρ];have hcall:=vXU H hq.1 hq.2.1 hq.2.2.1 hq.2.2.2.1 hq.2.2.2.2 hcv hargs hC1.2;rw[Array.toArray_toList]at hcall;refine upon_enter (R:=fun u w'=>∃ A',HR E G w' A' κ (hset s.h q (some b1)) (vCI s.z fp.fz)/\RV w' A' κ v u/\(∀ b,A b->A' b)/\∀ b o,A b->w'.cell? ⟨b,o,none⟩=w.cell? ⟨b,o,none⟩) (hcall.mono fun e w' ⟨u,A',h1,h2⟩=>⟨u,h1,A',h2⟩) fun v' w' ⟨A',h1,h2,h5,h6⟩=>?_
   exact hnext E w' A' κ v' ⟨hX,rfl,rfl⟩ h1 h2 (fun _ _ h=>h) (fun _ _=>rfl) h5 h6
  rotate_left
  .have hargs0:RVs w A κ (args.toList.map (ev G s.t)) (args.map a.eval).toList:=by
    rw[rEB];exact zLS fun x hxm=>hx x (by rw[ho]; simp[Op.operands,Call.operands]; exact rAZ (by simpa using hxm))
   have hgv:RV w A κ (ev G s.t g) (a.eval g):=hx g (by rw[ho]; simp[Op.operands,Call.operands]);have hg:RV w A κ (.func (.func f) first captured) (a.eval g):=by rw[<- hev]; exact hgv
   obtain⟨fs,cs,hρ,hl1,hl2,hf1,hf2⟩:=hg.func_inv
   have hargs:RVs w A κ (first++args.toList.map (ev G s.t)++captured) (fs++args.map a.eval++cs).toList:=by
    rw[rCJ,rCJ];exact zCA (zCA (zCL hl1 hf1) hargs0) (zCL hl2 hf2)
   have hC1:=hC.call f ds (.own (q.map (·.2)) res b1) rfl hCf;refine⟨fun _ _=>trivial,?_⟩;rw[zEJ o (by rw[ho]; simp),zFP hC1.1 ho hρ];have hcall:=vV1 H hn hk hz hhk hq hcv hargs hC1.2;rw[Array.toArray_toList]at hcall
   refine upon_enter (R:=fun v w'=>∃ A' κ',HR E G w' A' κ' (hset (vEB s.h q) key (some b1)) (vCI s.z fp.fz)/\RV w' A' κ' (rk key res) v/\(∀ r x,κ r=some x->κ' r=some x)/\(∀ r,r≠key->κ' r=κ r) /\
    (∀ b,A b->A' b)/\∀ b o,A b->w'.cell? ⟨b,o,none⟩=w.cell? ⟨b,o,none⟩) (hcall.mono fun e w' ⟨v,A',κ',h1,h2⟩=>⟨v,h1,A',κ',h2⟩) fun v' w' ⟨A',κ',h1,h2,h3,h4,h5,h6⟩=>?_
   exact hnext E w' A' κ' v' ⟨hX,rfl,rfl⟩ h1 h2 h3 h4 h5 h6
  have hargs0:RVs w A κ (args.toList.map (ev G s.t)) (args.map a.eval).toList:=by
   rw[rEB];exact zLS fun x hxm=>hx x (by rw[ho]; simp[Op.operands,Call.operands]; exact rAZ (by simpa using hxm))
  have hgv:RV w A κ (ev G s.t g) (a.eval g):=hx g (by rw[ho]; simp[Op.operands,Call.operands]);have hHf:=H.freeze (zBX hfr);rcases hcal with⟨first,captured,hev,rfl,rfl⟩ | ⟨hev,rfl,rfl,hgh⟩
  .have hg:RV w A κ (.func (.func f) first captured) (a.eval g):=by rw[<- hev]; exact hgv
   obtain⟨fs,cs,hρ,hl1,hl2,hf1,hf2⟩:=hg.func_inv
   have hargs:RVs w A κ (first++args.toList.map (ev G s.t)++captured) (fs++args.map a.eval++cs).toList:=by
    rw[rCJ,rCJ];exact zCA (zCA (zCL hl1 hf1) hargs0) (zCL hl2 hf2)
   have hRD:=zNQ H hfr hargs;rw[List.nil_append]at hCf;by_cases hgh:r.isGh=true
   .obtain⟨i,j,b,rfl⟩:∃ i j b,r=.gh i j b:=CRes.isGh_elim hgh
    obtain⟨p1,p2⟩:=hC.prod f ds i j b hCf (fun ds' e=>by
     subst e;have:=hRD.2 0 .anyb rfl
     cases this)
    have hcall:=p2 E w _ κ s.h _ _ hX hHf hok hRD;rw[Array.toArray_toList]at hcall;refine⟨fun _ _=>trivial,?_⟩;rw[zEJ o (by rw[ho]; simp),zFP p1 ho hρ];refine upon_enter (R:=fun v w'=>∃ E',(X E'/\E'.re E=E'/\E'.M=E.M)/\v=.bool b/\HR E' G w' _ κ _ _/\∀ b o,(A b\/vBQ κ fp.fz b)->w'.cell? ⟨b,o,none⟩=w.cell? ⟨b,o,none⟩) (hcall.mono fun e w' ⟨E',q1,q2,q3,q4⟩=>⟨_,q2,E',q1,rfl,q3,q4⟩) fun v' w' ⟨E',q1,q2,q3,q4⟩=>?_
    subst q2;exact hnext E' w' _ κ _ q1 q3 (.data _ _ (.bool b)) (fun _ _ h=>h) (fun _ _=>rfl) (fun b hA=>rAW hA) (fun b o hA=>q4 b o (rAW hA))
   have hC1:=hC.call f ds r (by simpa using hgh) hCf;refine⟨fun _ _=>trivial,?_⟩;rw[zEJ o (by rw[ho]; simp),zFP hC1.1 ho hρ]
   have hcall:Calls P f (fs++args.map a.eval++cs) w fun e w'=>∃ v,e=.returned v/\Below w.heap.size w w'/\r.holds w w' (fun b=>A b\/vBQ κ fp.fz b) v:=by
    have hC2:=hC1.2;cases r with
    | data d=>have:=hC2 w _ _ hHf.alt hHf.gok hRD; rwa [Array.toArray_toList]at this
    | fresh els sz agg=>have:=hC2 w _ _ hHf.alt hHf.gok hRD; rwa [Array.toArray_toList]at this
    | gh=>exact hC2.elim
    | seq=>exact hok.elim
    | own=>exact hok.elim
    | wrt=>exact hok.elim
    | frm=>exact hok.elim
   refine upon_enter (R:=fun v w'=>Below w.heap.size w w'/\r.holds w w' (fun b=>A b\/vBQ κ fp.fz b) v) hcall fun v' w' ⟨hb,hh⟩=>?_
   cases r with
   | data d =>
     have HA:=hHf.after hb (X:=fun b=>w.heap.size<=b/\b<w'.heap.size) (fun b h=>h);exact hnext E w' _ κ v' ⟨hX,rfl,rfl⟩ HA (.data _ _ hh) (fun _ _ h=>h) (fun _ _=>rfl) (fun b hA=>rAW (rAW hA)) (fun b o' hA=>cell?_of_heap (hb.block b (H.alt b hA)) o')
   | fresh els sz agg =>
     obtain⟨ad,cap,rfl,hle,hu,hh⟩:=hh
     have hcap0:∀ {w'':World} {A'':Nat->Prop} {κ'':Ka},κ'' key=some (0,sz,0)->cap=0->RV w'' A'' κ'' (.own key 0 els.length) (.slice ad els.length cap):=by
      intro w'' A'' κ'' hk'' hc0;subst hc0;have:els.length=0:=by omega
      rw[this];exact zEP hk'' ad
     by_cases hc0:cap=0
     .have HA:=hHf.after hb (X:=fun b=>w.heap.size<=b/\b<w'.heap.size) (fun b h=>h)
      have he:els=[]:=rA2.1 zom;have HE:=HA.empty (sz:=sz) (agg:=agg) hn hk;subst he;exact hnext E w' _ (vDO κ key (0,sz,0)) _ ⟨hX,rfl,rfl⟩ HE (hcap0 (zA1 ..) hc0) (zDL _ hk) (fun r hr=>zAP κ _ hr) (fun b hA=>rAW (rAW hA)) (fun b o' hA=>cell?_of_heap (hb.block b (H.alt b hA)) o')
     .obtain⟨m',c,ty,rfl,hm1,hm2,hm3,hm4,hm5⟩:=hh.resolve_left hc0
      have HA:=hHf.after hb (X:=fun b=>w.heap.size<=b/\b<w'.heap.size/\b≠m') (fun b h=>⟨h.1,h.2.1⟩)
      have hzk:vCI s.z fp.fz key=false:=by
       simp only[vCI,rD7];refine⟨?_,hz⟩;simp only[rEY,rB5];intro hm;obtain⟨bk,hbk⟩:=zBX hfr key hm;rw[hhk]at hbk; cases hbk
      have HD:=HA.adopt (key:=key) (sz:=sz) (cap:=cap) (agg:=agg) (els:=els) hn hk hzk hm2 (rBV H.hB hm1) ⟨fun hS=>by have:=(H.kp.keep m' hS).1; omega,fun hK=>by have:=(H.kp.kk m' hK).1; omega⟩ (by
       rintro((h | h) | h)
       .have:=H.alt m' h; omega
       .have:=hHf.alt m' (rAZ h); omega
       .exact h.2.2 rfl) (fun r b m2 s2 c2 hr hkr hc2 e=>by
       subst e;rcases H.klt r m2 s2 c2 hkr with h | h
       .exact hc2 h
       .omega) hm3 hle hu hm4 (fun i e he=>(hm5 i e he).mono uHB (fun _ _ _=>rfl) (fun r x hr=>by cases hr))
      refine hnext E w' _ (vDO κ key (m',sz,cap)) _ ⟨hX,rfl,rfl⟩ HD ?_ (zDL _ hk) (fun r hr=>zAP κ _ hr) (fun b hA=>rAW (rAW hA)) (fun b o' hA=>cell?_of_heap (hb.block b (H.alt b hA)) o');have:=RV.own (w:=w') (A:=fun b=>(A b\/vBQ κ fp.fz b)\/(w.heap.size<=b/\b<w'.heap.size/\b≠m')) (κ:=vDO κ key (m',sz,cap)) key 0 els.length m' sz cap (some ⟨m',0,none⟩) (zA1 ..) zom (rAW zsm);simp only[rE9,Nat.sub_zero]at this;exact this
   | gh=>exact hh.elim
   | seq=>exact hh.elim
   | own=>exact hh.elim
   | wrt=>exact hh.elim
   | frm=>exact hh.elim
  .obtain⟨i,j,b,rfl⟩:∃ i j b,r=.gh i j b:=CRes.isGh_elim hgh
   have hg:RV w A κ (.func (.yield f) [] []) (a.eval g):=by rw[<- hev]; exact hgv
   obtain⟨fs,cs,hρ,hl1,hl2,_,_⟩:=hg.func_inv;have e1:fs=#[]:=rDP (by simpa using hl1);have e2:cs=#[]:=rDP (by simpa using hl2);subst e1 e2;have hRD:=zNQ H hfr hargs0;obtain⟨fi,tmps,assign,body,hy,hround⟩:=hC.yld f ds i j b hCf E w _ κ s.h _ _ hX hHf hok hRD;rw[Array.toArray_toList]at hy;refine⟨fun _ _=>trivial,?_⟩;rw[zEJ o (by rw[ho]; simp),vTO ho hρ hy];refine⟨fun hh=>(by cases hh),(hround ro (n - 1)).mono fun e w' ⟨E',q1,q2,q3,q4⟩=>?_⟩;subst q2;exact hnext E' w' _ κ _ q1 q3 (.data _ _ (.bool b)) (fun _ _ h=>h) (fun _ _=>rfl) (fun b hA=>rAW hA) (fun b o hA=>q4 b o (rAW hA))
 .rename_i op hne
  obtain⟨he,rfl,_⟩:=hd;refine vGP (z':=s.z) hX ?_ (vK2 H hn hk hz hhk hx he) hnext;intro c hc;rw[hc]at he;simp[vA4]at he
theorem zH0{f:FuncId}{g:Operand}{args:Array Operand}{ts:Array TypeId}{first captured:List PV}{K:PV->St->Prop}(H:HR E G w A κ s.h s.z)(hn:E.n0<=s.nx)(hfr:vDC s.nx κ s.h s.z)(hx:OkOp G w A κ s.t a.eval o.op)
 (ho:o.op=.call { callee:=.value g,args,argTypes:=ts }) (hev:ev G s.t g=.func (.func f) first captured) (hI:FnH P G f (first++args.toList.map (ev G s.t)++captured) K s)
 {next:Act->World->Prop} {Q:Exit->Act->World->Prop}
 (hnext:∀ w' A' κ' s' v' pv,K pv s'->HR E G w' A' κ' s'.h s'.z->vDC s'.nx κ' s'.h s'.z->s.nx<=s'.nx->RV w' A' κ' pv v'->(∀ r x,κ r=some x->κ' r=some x)->(∀ b,A b->A' b)->(∀ b o,A b->w'.cell? ⟨b,o,none⟩=w.cell? ⟨b,o,none⟩)->next (a.put o.dst v') w') :
 Oper.wpIn (Wd ro) n P o a w next Q:=by
 have hg:RV w A κ (.func (.func f) first captured) (a.eval g):=by rw[<- hev]; exact hx g (by rw[ho]; simp[Op.operands,Call.operands])
 obtain⟨fs,cs,hρ,hl1,hl2,hf1,hf2⟩:=hg.func_inv
 have hargs:RVs w A κ (first++args.toList.map (ev G s.t)++captured) (fs++args.map a.eval++cs).toList:=by
  simp only[rCJ,rEB];exact zCA (zCA (zCL hl1 hf1) (zLS fun x hxm=>hx x (by rw[ho]; simp[Op.operands,Call.operands]; exact rAZ (by simpa using hxm)))) (zCL hl2 hf2)
 have H':HR { E with n0:=s.nx,κ0:=κ,A0:=A,w1:=w } G w A κ s.h s.z :=
  ⟨H.bel,H.hB,H.alt,fun _ h=>h,fun _ h=>rAW h,fun _ _ _=>rfl,fun _ _=>rfl,H.glob,H.klt,⟨H.kp.base,H.kp.keep,H.kp.wr,H.kp.own,H.kp.mks,H.kp.nd,H.kp.kb,H.kp.kk,H.kp.zk,H.kp.mk0,fun hg=>⟨rA4 (H.kp.gk hg).1 hn,(H.kp.gk hg).2⟩⟩,H.blk,H.excl⟩
 have hcall:=hI.2 _ w A κ _ rfl rfl rfl rfl H' hfr hargs;rw[Array.toArray_toList]at hcall;refine⟨fun _ _=>trivial,?_⟩;rw[zEJ o (by rw[ho]; simp),zFP hI.1 ho hρ]
 refine upon_enter (R:=fun v w'=>∃ pv A' κ' s',HR { E with n0:=s.nx,κ0:=κ,A0:=A,w1:=w } G w' A' κ' s'.h s'.z/\vDC s'.nx κ' s'.h s'.z/\s.nx<=s'.nx/\RV w' A' κ' pv v/\K pv s')
  (hcall.mono fun e w' ⟨v,pv,A',κ',s',h1,h2⟩=>⟨v,h1,pv,A',κ',s',h2⟩) fun v' w' ⟨pv,A',κ',s',h1,h2,h3,h4,h5⟩=>?_
 have hk:∀ r x,κ r=some x->κ' r=some x:=fun r x hr=>by
  by_cases hlt:r<s.nx
  .rw[h1.k0 r hlt]; exact hr
  .rw[(hfr r zom).2.2]at hr; cases hr
 have HE:HR E G w' A' κ' s'.h s'.z:=by
  refine⟨h1.bel,h1.hB,h1.alt,fun b hb=>h1.a0 b (H.a0 b hb),fun b hb=>?_,fun b o' hb=>(h1.acell b o' (H.a0 b hb)).trans (H.acell b o' hb),fun r hr=>(h1.k0 r (rA4 hr hn)).trans (H.k0 r hr),h1.glob,h1.klt,⟨h1.kp.base,h1.kp.keep,h1.kp.wr,h1.kp.own,h1.kp.mks,h1.kp.nd,h1.kp.kb,h1.kp.kk,h1.kp.zk,h1.kp.mk0,fun hg=>⟨(H.kp.gk hg).1,(h1.kp.gk hg).2⟩⟩,h1.blk,h1.excl⟩;rcases h1.a1 b hb with h | h
  .exact H.a1 b h
  .exact rAZ h
 exact hnext w' A' κ' s' v' pv h5 HE h2 h3 h4 hk (fun b hb=>h1.a0 b hb) (fun b o' hb=>h1.acell b o' hb)
end
open Go.RowKit
def wants(ops:List Oper)(o:Oper)(t:Tm):Option Bool :=
 match o.guard with
 | none=>some true
 | some (j,want)=>match (ops[j]?).bind (·.dst) with
   | some d=>(match t d with
     | .bool b=>some (b == want)
     | .tup []=>some false
     | _=>none)
   | none=>none
def vF6 (P:Program) (G:Gl) (C:vA8) (ops:List Oper) (base:Nat) (fps:Nat->FP) (i:Nat) (s s':St):Prop :=
 ∃ o,ops[i]?=some o /\
   ((wants ops o s.t=some true/\∃ v h' z',opD P G C (base+i) o s (fps i) v h' z'/\s'=put { s with h:=h',z:=z' } o.dst v) \/
    (wants ops o s.t=some false/\s'=put s o.dst (.tup [])))
section
variable {P:Program} {G:Gl} {C:vA8}
theorem contains_false{l:List Nat}{k:Nat}:l.contains k=false↔k∉l:=by simp[rEY]
def over(wr:List Nat)(h' h:Hp):Hp:=fun r=>if wr.contains r then h' r else h r
theorem uD9{t t2:Tm}{x:Operand}(h:∀ i,x=.tmp i->t2 i=t i):ev G t2 x=ev G t x:=by
 cases x with
 | tmp i=>exact h i rfl
 | const v=>rfl
 | global g=>rfl
 | func f=>rfl
theorem uBZ(h' h:Hp):over [] h' h=h:=rfl
theorem zID(h h2:Hp)(k:Nat)(b:Option Blk):over [k] (hset h k b) h2=hset h2 k b:=by
 funext r
 simp only[over,hset,rFV,List.contains_nil,rCO,rDL]
 split<;>simp_all
theorem vPG(h h2:Hp)(r k:Nat)(b:Option Blk):over [r,k] (hset (hset h r none) k b) h2=hset (hset h2 r none) k b:=by
 funext q
 simp only[over,hset,rFV,List.contains_nil,rCO,rCL,rDL];by_cases h1:q=k
 .simp[h1]
 .by_cases h2:q=r<;>simp[h1,h2]
theorem zBP{c:Prop}[Decidable c]{x:Res}(h:c):need c x=x:=by simp[need,h]
structure Loc(P:Program)(G:Gl)(z:Fz)(key:Nat)(op:Op)(t:Tm)(h:Hp)(v:PV)(h':Hp)(rd wr:List Nat):Prop where
 out:∀ r,r∉wr->h' r=h r
 fresh:∀ r,r≠key->h r=none->h' r=none
 loc:∀ (t2:Tm) (h2:Hp) (z2:Fz),(∀ x∈op.operands.toList,ev G t2 x=ev G t x)->(∀ r∈rd,h2 r=h r)->(∀ r∈wr,z2 r=z r)->vA4 P G z2 key op t2 h2=some (v,over wr h' h2,rd,wr)
theorem Loc.same{z:Fz}{key:Nat}{op:Op}{t:Tm}{h:Hp}{v:PV}{rd:List Nat}
 (hl:∀ (t2:Tm) (h2:Hp) (z2:Fz),(∀ x∈op.operands.toList,ev G t2 x=ev G t x)->(∀ r∈rd,h2 r=h r)->vA4 P G z2 key op t2 h2=some (v,h2,rd,[])):Loc P G z key op t h v h rd [] :=
 ⟨fun _ _=>rfl,fun _ _ h=>h,fun t2 h2 z2 h1 h3 _=>by rw[uBZ]; exact hl t2 h2 z2 h1 h3⟩
theorem Loc.new {z:Fz} {key:Nat} {op:Op} {t:Tm} {h:Hp} {v:PV} {rd:List Nat} {b:Option Blk}
 (hl:∀ (t2:Tm) (h2:Hp) (z2:Fz),(∀ x∈op.operands.toList,ev G t2 x=ev G t x)->(∀ r∈rd,h2 r=h r)->vA4 P G z2 key op t2 h2=some (v,hset h2 key b,rd,[key])):Loc P G z key op t h v (hset h key b) rd [key] :=
 ⟨fun r hr => by have:r≠key:=by simpa using hr
                 simp[hset,this],fun r hr hn=>by simp[hset,hr,hn],fun t2 h2 z2 h1 h3 _=>by rw[zID]; exact hl t2 h2 z2 h1 h3⟩
theorem zN4{h h2:Hp}{v:PV}{es:List PV}{ks:List Nat}(hs:vJD h v=some (es,ks))(hk:∀ r∈ks,h2 r=h r):vJD h2 v=some (es,ks):=by
 unfold vJD at hs ⊢
 split at hs
 .exact hs
 .exact hs
 .rename_i r off len
  split at hs
  .rename_i b hb
   split at hs
   .rename_i hle
    cases hs
    have:=hk r zsm;simp only[this,hb,rAV hle]
   .cases hs
  .cases hs
 .cases hs
def vER(P:Program)(ty:TypeId)(x:PV)(l1 l2:Bool)(A B:Option Int)(h:Hp):Res :=
 let size:=(vA6 P (vA6 P ty).elem).size
 match x with
 | .imm es=>(match (if l1 then A else some 0),(if l2 then B else some (es.length:Int)) with
   | some a,some b=>need ((vA6 P ty).isSlice=true/\(∀ e∈es,e.cells.length=size)/\0<=a/\a<=b/\b<=es.length/\size≠0) (some (.imm ((es.take b.toNat).drop a.toNat),h,[],[]))
   | _,_=>none)
 | .own r off len=>(match (if l1 then A else some 0),(if l2 then B else some (len:Int)) with
   | some a,some b=>(match h r with
     | some k=>need ((vA6 P ty).isSlice=true/\k.sz=size/\0<=a/\a<=b/\b<=len/\size≠0) (some (.own r (off+a.toNat) (b.toNat - a.toNat),h,[r],[]))
     | none=>none)
   | _,_=>none)
 | _=>none
theorem vK3 {z:Fz} {key:Nat} {op:Op} {t:Tm} {h h':Hp} {v:PV} {rd wr:List Nat} (he:vA4 P G z key op t h=some (v,h',rd,wr)):Loc P G z key op t h v h' rd wr:=by
 cases op
 case move x=>unfold vA4 at he; cases he; exact .same fun t2 h2 z2 h1 _=>by simp only[vA4,h1 x rAD]
 case assign x=>unfold vA4 at he; cases he; exact .same fun t2 h2 z2 h1 _=>by simp only[vA4,h1 x rAD]
 case pick c a b =>
  unfold vA4 at he;dsimp only at he
  split at he
  .rename_i q hq
   cases he
   exact .same fun t2 h2 z2 h1 _=>by simp only[vA4,h1 c rAD,h1 a rAD,h1 b rAD,hq]
  .cases he
 case alloc e =>
  unfold vA4 at he;dsimp only at he;obtain⟨hz,he⟩:=zAN he;cases he
  exact .new fun t2 h2 z2 h1 _=>by simp only[vA4,zBP hz]
 case box e x =>
  unfold vA4 at he;dsimp only at he;obtain⟨hz,he⟩:=zAN he;cases he
  exact .new fun t2 h2 z2 h1 _=>by simp only[vA4,h1 x rAD,zBP hz]
 case build ty parts =>
  have hp:∀ t2:Tm,(∀ x∈(Op.build ty parts).operands.toList,ev G t2 x=ev G t x)->(parts.toList.map fun(j,x)=>(j,ev G t2 x))=parts.toList.map fun(j,x)=>(j,ev G t x):=fun t2 h1=>by
   refine rBH fun q hq=>?_
   simp only[h1 q.2 (by simp only[Op.operands,rA5]; exact⟨q,hq,rfl⟩)]
  unfold vA4 at he;dsimp only at he
  split at he
  .rename_i hel
   obtain⟨hz,he⟩:=zAN he
   split at he
   .rename_i cs hf
    cases he
    exact .same fun t2 h2 z2 h1 _=>by simp only[vA4,hel,zBP hz,hp t2 h1,hf]
   .cases he
  .rename_i hel
   obtain⟨hz,he⟩:=zAN he
   split at he
   .rename_i cs hf
    cases he
    exact .same fun t2 h2 z2 h1 _=>by
     simp only[vA4,hel,zBP hz,hp t2 h1,hf]
   .cases he
 case buildSlice ty len parts =>
  have hp:∀ t2:Tm,(∀ x∈(Op.buildSlice ty len parts).operands.toList,ev G t2 x=ev G t x)->(parts.toList.map fun(j,x)=>(j,ev G t2 x))=parts.toList.map fun(j,x)=>(j,ev G t x):=fun t2 h1=>by
   refine rBH fun q hq=>?_
   simp only[h1 q.2 (by simp only[Op.operands,rA5]; exact⟨q,hq,rfl⟩)]
  unfold vA4 at he;dsimp only at he;obtain⟨hz,he⟩:=zAN he
  split at he
  .rename_i cs hf
   cases he
   exact .new fun t2 h2 z2 h1 _=>by simp only[vA4,zBP hz,hp t2 h1,hf]
  .cases he
 case load ty x =>
  unfold vA4 at he;dsimp only at he
  split at he
  .rename_i r j off hx
   split at he
   .rename_i b hb
    split at he
    .rename_i e hj
     obtain⟨u,hu,hv⟩:=map_some he;cases hv
     exact .same fun t2 h2 z2 h1 h3=>by simp only[vA4,h1 x rAD,hx,h3 r zsm,hb,hj,hu,Option.map_some]
    .cases he
   .cases he
  .rename_i e off hx
   obtain⟨u,hu,hv⟩:=map_some he;cases hv
   exact .same fun t2 h2 z2 h1 h3=>by simp only[vA4,h1 x rAD,hx,hu,Option.map_some]
  .cases he
 case store ty x y =>
  unfold vA4 at he;dsimp only at he
  split at he
  .rename_i r j off hx
   split at he
   .rename_i b hb
    split at he
    .rename_i e hj
     obtain⟨hn,he⟩:=zAN he;obtain⟨u,hu,hv⟩:=map_some he;cases hv
     refine⟨fun q hq=>?_,fun q hq hn=>?_,fun t2 h2 z2 h1 h3 h4=>?_⟩
     .have:q≠r:=by simpa using hq
      simp[hset,this]
     .have:q≠r:=fun e=>by rw[e,hb]at hn; cases hn
      simp[hset,this,hn]
     .rw[zID]
      have hz:=h4 r zsm;simp only[vA4,h1 x rAD,h1 y rAD,hx,h3 r zsm,hb,hj,hu,Option.map_some];exact zBP ⟨by rw[hz]; exact hn.1,hn.2⟩
    .cases he
   .cases he
  .cases he
 case nilCheck x =>
  unfold vA4 at he;dsimp only at he
  split at he
  .rename_i r i off hx
   cases he
   exact .same fun t2 h2 z2 h1 _=>by simp only[vA4,h1 x rAD,hx]
  .rename_i e off hx
   cases he
   exact .same fun t2 h2 z2 h1 _=>by simp only[vA4,h1 x rAD,hx]
  .cases he
 case binOp op xt x y yt =>
  have e:∀ (t2:Tm) (h2:Hp) (z2:Fz),(∀ q∈(Op.binOp op xt x y yt).operands.toList,ev G t2 q=ev G t q)->vA4 P G z2 key (.binOp op xt x y yt) t2 h2=(vA4 P G z key (.binOp op xt x y yt) t h).map fun q=>(q.1,h2,q.2.2):=by
   intro t2 h2 z2 h1;simp only[vA4,h1 x rAD,h1 y rAD,need];generalize ev G t x=a;generalize ev G t y=b;cases b<;>cases a<;>dsimp only<;>(repeat' split)<;>first | rfl | (simp[Option.map_map,Function.comp_def]; done)
  have hh:h'=h/\rd=[]/\wr=[]:=by
   have:=e t (fun _=>none) z (fun _ _=>rfl);have:=e t h z (fun _ _=>rfl);unfold vA4 at he;dsimp only at he
   repeat' (split at he)
   all_goals first
    | (cases he; done)
    | (cases he; exact⟨rfl,rfl,rfl⟩)
    | (obtain⟨_,he⟩:=zAN he; cases he; exact⟨rfl,rfl,rfl⟩)
    | (obtain⟨_,he⟩:=zAN he; obtain⟨x,hx,hv⟩:=map_some he; cases hv; exact⟨rfl,rfl,rfl⟩)
    | (obtain⟨x,hx,hv⟩:=map_some he; cases hv; exact⟨rfl,rfl,rfl⟩)
  obtain⟨rfl,rfl,rfl⟩:=hh;exact .same fun t2 h2 z2 h1 _=>by rw[e t2 h2 z2 h1,he]; rfl
 case unOp op xt x =>
  unfold vA4 at he;dsimp only at he
  split at he
  .rename_i b hx
   cases he
   exact .same fun t2 h2 z2 h1 _=>by simp only[vA4,h1 x rAD,hx]
  .rename_i k n hx
   cases he
   exact .same fun t2 h2 z2 h1 _=>by simp only[vA4,h1 x rAD,hx]
  .cases he
 case convert a b x =>
  unfold vA4 at he;dsimp only at he
  split at he
  .rename_i k0 k k1 n hs hd hx
   cases he
   exact .same fun t2 h2 z2 h1 _=>by simp only[vA4,h1 x rAD,hx,hs,hd]
  .cases he
 case makeFunc fn first captured =>
  unfold vA4 at he;cases he
  refine .same fun t2 h2 z2 h1 _=>?_
  have e1:first.toList.map (ev G t2)=first.toList.map (ev G t):=rBH fun q hq=>h1 q (by simp[Op.operands]; exact rAW (by simpa using hq))
  have e2:captured.toList.map (ev G t2)=captured.toList.map (ev G t):=rBH fun q hq=>h1 q (by simp[Op.operands]; exact rAZ (by simpa using hq))
  simp only[vA4,e1,e2]
 case makeSlice ty l c =>
  unfold vA4 at he;dsimp only at he
  split at he
  .rename_i n m hl hc
   obtain⟨hn,he⟩:=zAN he;cases he
   exact .new fun t2 h2 z2 h1 _=>by simp only[vA4,h1 l rAD,h1 c rAD,hl,hc,zBP hn]
  .cases he
 case slice ty x lo hi mx =>
  cases mx with
  | some m=>simp[vA4]at he
  | none =>
    have fin:∀ (A B:Option Int),(∀ t2:Tm,(∀ q∈(Op.slice ty x lo hi none).operands.toList,ev G t2 q=ev G t q)->∀ (h2:Hp) (z2:Fz),vA4 P G z2 key (.slice ty x lo hi none) t2 h2=vER P ty (ev G t x) (lo.isSome) (hi.isSome) A B h2) ->
     Loc P G z key (.slice ty x lo hi none) t h v h' rd wr:=by
     intro A B heq;rw[heq t (fun _ _=>rfl) h z]at he;unfold vER at he
     split at he
     .rename_i es hx
      split at he
      .rename_i a b ha hb
       obtain⟨hn,he⟩:=zAN he;cases he
       refine .same fun t2 h2 z2 h1 _=>?_
       rw[heq t2 h1 h2 z2];simp only[vER,hx,ha,hb,zBP hn]
      .cases he
     .rename_i r off len hx
      split at he
      .rename_i a b ha hb
       split at he
       .rename_i k hk
        obtain⟨hn,he⟩:=zAN he;cases he
        refine .same fun t2 h2 z2 h1 h3=>?_
        rw[heq t2 h1 h2 z2];simp only[vER,hx,ha,hb,h3 r zsm,hk,zBP hn]
       .cases he
      .cases he
     .cases he
    rcases lo with _ | lo<;>rcases hi with _ | hi
    .exact fin none none fun t2 h1 h2 z2=>by
      simp only[vA4,h1 x rAD];generalize ev G t x=vx;cases vx<;>rfl
    .exact fin none (match ev G t hi with | .int _ n=>some n | _=>none) fun t2 h1 h2 z2=>by
      simp only[vA4,h1 x rAD,h1 hi rAD];generalize ev G t x=vx;cases vx<;>rfl
    .exact fin (match ev G t lo with | .int _ n=>some n | _=>none) none fun t2 h1 h2 z2=>by
      simp only[vA4,h1 x rAD,h1 lo rAD];generalize ev G t x=vx;cases vx<;>rfl
    .exact fin (match ev G t lo with | .int _ n=>some n | _=>none) (match ev G t hi with | .int _ n=>some n | _=>none) fun t2 h1 h2 z2=>by
      simp only[vA4,h1 x rAD,h1 lo rAD,h1 hi rAD];generalize ev G t x=vx;cases vx<;>rfl
 case fieldAddr s x f =>
  unfold vA4 at he;dsimp only at he
  split at he
  .rename_i o ty n r j off hf hx
   obtain⟨hn,he⟩:=zAN he;cases he
   exact .same fun t2 h2 z2 h1 _=>by simp only[vA4,h1 x rAD,hx,hf,zBP hn]
  .rename_i o ty n e off hf hx
   obtain⟨hn,he⟩:=zAN he;cases he
   exact .same fun t2 h2 z2 h1 _=>by simp only[vA4,h1 x rAD,hx,hf,zBP hn]
  .cases he
 case field s x f =>
  unfold vA4 at he;dsimp only at he
  split at he
  .rename_i o ty n cs hf hx
   obtain⟨u,hu,hv⟩:=map_some he;cases hv
   exact .same fun t2 h2 z2 h1 _=>by simp only[vA4,h1 x rAD,hx,hf,hu,Option.map_some]
  .cases he
 case indexAddr ty x ix =>
  unfold vA4 at he;dsimp only at he
  split at he
  .rename_i es k n hx hi
   obtain⟨hn,he⟩:=zAN he
   split at he
   .rename_i e hel
    obtain⟨hn',he⟩:=zAN he;cases he
    exact .same fun t2 h2 z2 h1 _=>by simp only[vA4,h1 x rAD,h1 ix rAD,hx,hi,zBP hn,hel,zBP hn']
   .cases he
  .rename_i r off len k n hx hi
   obtain⟨hn,he⟩:=zAN he
   split at he
   .rename_i b hb
    obtain⟨hn',he⟩:=zAN he;cases he
    exact .same fun t2 h2 z2 h1 h3=>by simp only[vA4,h1 x rAD,h1 ix rAD,hx,hi,zBP hn,h3 r zsm,hb,zBP hn']
   .cases he
  .rename_i e off k n hx hi
   obtain⟨hn,he⟩:=zAN he;cases he
   exact .same fun t2 h2 z2 h1 _=>by simp only[vA4,h1 x rAD,h1 ix rAD,hx,hi,zBP hn]
  .rename_i r j off k n hx hi
   obtain⟨hn,he⟩:=zAN he;cases he
   exact .same fun t2 h2 z2 h1 _=>by simp only[vA4,h1 x rAD,h1 ix rAD,hx,hi,zBP hn]
  .cases he
 case index ty x ix =>
  unfold vA4 at he;dsimp only at he
  split at he
  .rename_i cs k n hx hi
   obtain⟨hn,he⟩:=zAN he;obtain⟨u,hu,hv⟩:=map_some he;cases hv
   exact .same fun t2 h2 z2 h1 _=>by simp only[vA4,h1 x rAD,h1 ix rAD,hx,hi,zBP hn,hu,Option.map_some]
  .rename_i s k n hx hi
   obtain⟨hn,he⟩:=zAN he;obtain⟨u,hu,hv⟩:=map_some he;cases hv
   exact .same fun t2 h2 z2 h1 _=>by simp only[vA4,h1 x rAD,h1 ix rAD,hx,hi,zBP hn,hu,Option.map_some]
  .cases he
 case extract x i =>
  unfold vA4 at he;dsimp only at he
  split at he
  .rename_i vs hx
   obtain⟨u,hu,hv⟩:=map_some he;cases hv
   exact .same fun t2 h2 z2 h1 _=>by simp only[vA4,h1 x rAD,hx,hu,Option.map_some]
  .cases he
 case call c =>
  obtain⟨callee,⟨args⟩,⟨tys⟩⟩:=c;cases callee
  case value=>simp[vA4]at he
  case invoke=>simp[vA4]at he
  case builtin b =>
   cases b
   case len =>
    match args,tys,he with
    | [x],[ty],he =>
      unfold vA4 at he;dsimp only at he;obtain⟨hn,he⟩:=zAN he
      split at he
      .rename_i es hx
       cases he
       exact .same fun t2 h2 z2 h1 _=>by simp only[vA4,zBP hn,h1 x rAH,hx]
      .rename_i a b len hx
       cases he
       exact .same fun t2 h2 z2 h1 _=>by simp only[vA4,zBP hn,h1 x rAH,hx]
      .rename_i hx
       cases he
       exact .same fun t2 h2 z2 h1 _=>by simp only[vA4,zBP hn,h1 x rAH,hx]
      .cases he
    | [],_,he=>simp[vA4]at he
    | _::_::_,_,he=>simp[vA4]at he
    | [_],[],he=>simp[vA4]at he
    | [_],_::_::_,he=>simp[vA4]at he
   case max =>
    match args,he with
    | [x,y],he =>
      unfold vA4 at he;dsimp only at he
      split at he
      .rename_i k a k' b hx hy
       cases he
       exact .same fun t2 h2 z2 h1 _=>by simp only[vA4,h1 x rAH,h1 y rAH,hx,hy]
      .cases he
    | [],he=>simp[vA4]at he
    | [_],he=>simp[vA4]at he
    | _::_::_::_,he=>simp[vA4]at he
   case min =>
    match args,he with
    | [x,y],he =>
      unfold vA4 at he;dsimp only at he
      split at he
      .rename_i k a k' b hx hy
       cases he
       exact .same fun t2 h2 z2 h1 _=>by simp only[vA4,h1 x rAH,h1 y rAH,hx,hy]
      .cases he
    | [],he=>simp[vA4]at he
    | [_],he=>simp[vA4]at he
    | _::_::_::_,he=>simp[vA4]at he
   case append =>
    match args,tys,he with
    | [x, y],[ty,ty2],he =>
      unfold vA4 at he;dsimp only at he
      split at he
      .rename_i es ks hs
       obtain⟨hn,he⟩:=zAN he
       split at he
       .rename_i hx
        obtain⟨hn',he⟩:=zAN he;cases he
        refine .new fun t2 h2 z2 h1 h3=>?_
        simp only[vA4,h1 x rAH,h1 y rAH,zN4 hs h3,hx,zBP hn,zBP hn']
       .rename_i r off len hx
        split at he
        .rename_i b hb
         obtain⟨hn',he⟩:=zAN he;cases he
         refine⟨fun q hq=>?_,fun q hq hnone=>?_,fun t2 h2 z2 h1 h3 h4=>?_⟩
         .simp only[rA7,rCX,rE7,not_or]at hq
          simp[hset,hq.1,hq.2]
         .simp only[hset,rAN hq]
          split
          .rfl
          .exact hnone
         .rw[vPG]
          have hz:=h4 r zsm;simp only[vA4,h1 x rAH,h1 y rAH,zN4 hs (fun q hq=>h3 q (rA8 _ hq)),hx,zBP hn,h3 r zsm,hb];exact zBP ⟨hn'.1,hn'.2.1,hn'.2.2.1,hn'.2.2.2.1,by rw[hz]; exact hn'.2.2.2.2.1,hn'.2.2.2.2.2⟩
        .cases he
       .cases he
      .cases he
    | [],_,he=>simp[vA4]at he
    | [_],_,he=>simp[vA4]at he
    | _::_::_::_,_,he=>simp[vA4]at he
    | [_,_],[],he=>simp[vA4]at he
    | [_,_],[_],he=>simp[vA4]at he
    | [_,_],_::_::_::_,he=>simp[vA4]at he
   all_goals (simp[vA4]at he)
 all_goals (simp[vA4]at he)
end
open Go.RowKit
section
variable {P:Program} {G:Gl} {C:vA8}
theorem zKR {h h2:Hp}:∀ {n:Nat} {v d:PV} {ks:List Nat},frz h n v=some (d,ks)->(∀ r∈ks,h2 r=h r)->frz h2 n v=some (d,ks):=by
 intro n
 induction n with
 | zero =>
   intro v d ks hf _;cases v<;>simp[frz]at hf ⊢<;>exact hf
 | succ n ih =>
   intro v d ks hf hk
   have hm':∀ (l ds:List PV) (ks:List Nat),vB6 (frz h n) l=some (ds,ks)->(∀ r∈ks,h2 r=h r)->vB6 (frz h2 n) l=some (ds,ks):=by
    intro l
    induction l with
    | nil=>intro ds ks hm _; simpa [vB6]using hm
    | cons x l ihl =>
      intro ds ks hm hk;unfold vB6 at hm ⊢
      split at hm
      .rename_i d ks1 ds' ls h1 h2'
       cases hm
       rw[ih h1 (fun r hr=>hk r (rB0 _ hr)),ihl _ _ h2' (fun r hr=>hk r (rBW _ hr))]
      .cases hm
   cases v with
   | agg cs =>
     simp only[frz]at hf ⊢
     split at hf
     .rename_i ds ks' hm
      cases hf
      rw[hm' _ _ _ hm hk]
     .cases hf
   | tup cs =>
     simp only[frz]at hf ⊢
     split at hf
     .rename_i ds ks' hm
      cases hf
      rw[hm' _ _ _ hm hk]
     .cases hf
   | own r off len =>
     simp only[frz]at hf ⊢
     split at hf
     .rename_i b hb
      split at hf
      .rename_i hle
       split at hf
       .rename_i ds ks' hm
        cases hf
        rw[hk r zsm,hb];simp only[rAV hle];rw[hm' _ _ _ hm (fun q hq=>hk q (rA8 _ hq))]
       .cases hf
      .cases hf
     .cases hf
   | ptr r i off =>
     simp only[frz]at hf ⊢
     split at hf
     .rename_i b hb
      split at hf
      .rename_i e he
       split at hf
       .rename_i d ks' hd
        cases hf
        rw[hk r zsm,hb];simp only[he];rw[ih hd (fun q hq=>hk q (rA8 _ hq))]
       .cases hf
      .cases hf
     .cases hf
   | func fn f c =>
     simp only[frz]at hf ⊢
     split at hf
     .rename_i fs ks1 cs ks2 hm1 hm2
      cases hf
      rw[hm' _ _ _ hm1 (fun q hq=>hk q (rB0 _ hq)),hm' _ _ _ hm2 (fun q hq=>hk q (rBW _ hq))]
     .cases hf
   | _=>first | (simp[frz]at hf; done) | simpa [frz]using hf
theorem zI0{h h2:Hp}{n:Nat}:∀ {l ds:List PV} {ks:List Nat},vB6 (frz h n) l=some (ds,ks)->(∀ r∈ks,h2 r=h r)->vB6 (frz h2 n) l=some (ds,ks)
 | [],ds,ks,hm,_=>by simpa [vB6]using hm
 | x::l,ds,ks,hm,hk=>by
   unfold vB6 at hm ⊢
   split at hm
   .rename_i d ks1 ds' ls h1 h2'
    cases hm
    rw[zKR h1 (fun r hr=>hk r (rB0 _ hr)),zI0 h2' (fun r hr=>hk r (rBW _ hr))]
   .cases hm
theorem zGR{h h2:Hp}{f g:PV->Option (PV×List Nat)}(hfg:∀ x y ks,f x=some (y,ks)->(∀ r∈ks,h2 r=h r)->g x=some (y,ks)):∀ {l ds:List PV} {ks:List Nat},vB6 f l=some (ds,ks)->(∀ r∈ks,h2 r=h r)->vB6 g l=some (ds,ks)
 | [],ds,ks,hm,_=>by simpa [vB6]using hm
 | x::l,ds,ks,hm,hk=>by
   simp only[vB6]at hm ⊢
   split at hm
   .rename_i d ks1 ds' ls h1 h2'
    cases hm
    rw[hfg _ _ _ h1 (fun r hr=>hk r (rB0 _ hr)),zGR hfg h2' (fun r hr=>hk r (rBW _ hr))]
   .cases hm
theorem zK1{h h2:Hp}{n:Nat}{q:Option Nat}{x y:PV}{ks:List Nat}(he:cv1 h n q x=some (y,ks))(hk:∀ r∈ks,h2 r=h r):cv1 h2 n q x=some (y,ks):=by
 unfold cv1 at he ⊢
 split at he
 .exact he
 .split at he
  .rename_i e; rw[rAV e]; exact he
  .rename_i e; rw[rAN e]; exact zKR he hk
 .split at he
  .rename_i e; rw[rAV e]; exact he
  .rename_i e; rw[rAN e]; exact zKR he hk
 .exact zKR he hk
theorem uEC{h h2:Hp}{n:Nat}{q:Option Nat}{x y:PV}{ks:List Nat}(he:cv h n q x=some (y,ks))(hk:∀ r∈ks,h2 r=h r):cv h2 n q x=some (y,ks):=by
 unfold cv at he ⊢
 split at he
 .split at he
  .rename_i hm
   cases he
   rw[zGR (fun _ _ _ e k=>zK1 e k) hm hk]
  .cases he
 .split at he
  .rename_i h1 h2'
   cases he
   rw[zGR (fun _ _ _ e k=>zK1 e k) h1 (fun r hr=>hk r (rB0 _ hr)),zGR (fun _ _ _ e k=>zK1 e k) h2' (fun r hr=>hk r (rBW _ hr))]
  .cases he
 .exact zK1 he hk
theorem zKK{h h2:Hp}{n:Nat}{q:Option Nat}{l ds:List PV}{ks:List Nat}(hm:vB6 (cv h n q) l=some (ds,ks))(hk:∀ r∈ks,h2 r=h r):vB6 (cv h2 n q) l=some (ds,ks) :=
 zGR (fun _ _ _ e k=>uEC e k) hm hk
theorem zEQ {key : Nat} {o:Oper} {s:St} {fp:FP} {v:PV} {h':Hp} {z':Fz} (hd:opD P G C key o s fp v h' z') :
 (∀ r,r∉fp.wr->h' r=s.h r)/\(∀ r,r≠key->s.h r=none->h' r=none/\r∉fp.fz)/\z'=vCI s.z fp.fz /\
 ∀ s2:St,(∀ x∈o.op.operands.toList,ev G s2.t x=ev G s.t x)->(∀ r∈fp.rd,s2.h r=s.h r)->(∀ r∈fp.wr,s2.z r=s.z r) ->
   opD P G C key o s2 fp v (over fp.wr h' s2.h) (vCI s2.z fp.fz):=by
 unfold opD at hd
 split at hd
 .rename_i g args ts ho
  rcases hd with⟨f,pre,rest,m,ds,r,hcal,hfr,hC,hok,rfl,rfl,rfl,hrd,hwr⟩ | ⟨f,first,captured,m,ds,qr,res,b1,hev,hcv,hC,hq,rfl,rfl,rfl,hrd,hwr⟩ | ⟨f,first,captured,m,ds,q,b0,v0,b1,hev,hcv,hC,hq,rfl,rfl,rfl,hrd,hwr⟩ | ⟨f,first,captured,ds,rs,bs,v0,bs',hev,heq,hC,hok,rfl,rfl,rfl,hfz,hrd,hwr⟩
  rotate_left 3
  .obtain⟨hnd,hl1,hl2,hbs,hrest⟩:=hok
   have hat:∀ r∈rs,∃ b,s.h r=some b:=fun r hr=>by
    obtain⟨j,hj,rfl⟩:=vHU hr;exact⟨_,(hbs j bs[j] (rAR zom)).1⟩
   refine⟨fun r hr=>?_,fun r hr hn=>⟨?_,fun hm=>?_⟩,rfl,fun s2 h1 h2 h3=>?_⟩
   .rw[hwr]at hr
    exact zGT hr
   .rw[zGT fun hm=>?_]
    .exact hn
    .obtain⟨b,hb⟩:=hat r hm
     rw[hn]at hb; cases hb
   .rw[hfz]at hm; cases hm
   .unfold opD
    rw[ho]
    right; right; right
    have hg:=h1 g (by rw[ho]; simp[Op.operands,Call.operands]);have ha:args.toList.map (ev G s2.t)=args.toList.map (ev G s.t):=rBH fun x hx=>h1 x (by rw[ho]; simp[Op.operands,Call.operands]; exact rAZ (by simpa using hx))
    refine⟨f,first,captured,ds,rs,bs,v,bs',by rw[hg]; exact hev,by rw[ha]; exact heq,hC,⟨hnd,hl1,hl2,fun j b hb=>?_,hrest⟩,rfl,?_,rfl,hfz,hrd,hwr⟩
    .obtain⟨k1,k2,k3⟩:=hbs j b hb
     have hj:j<rs.length:=by have:=(rAP.1 hb).1; omega
     exact⟨(h2 _ (by rw[hrd]; exact vH5 hj)).trans k1,(h3 _ (by rw[hwr]; exact vH5 hj)).trans k2,k3⟩
    .rw[hwr]
     funext r
     simp only[over];by_cases hr:r∈rs
     .rw[rAV (by simpa using hr)]
      obtain⟨j,hj,rfl⟩:=vHU hr;have e:bs'[j]?=some bs'[j]:=rAR zom;rw[zNO hnd e hj,zNO hnd e hj]
     .rw[rAN (by simpa using hr),zGT hr]
  rotate_left 2
  .refine⟨fun r hr=>?_,fun r hr hn=>⟨?_,fun hm=>?_⟩,rfl,fun s2 h1 h2 h3=>?_⟩
   .rw[hwr]at hr
    have:r≠q:=by simpa using hr
    simp[hset,this]
   .have:r≠q:=fun e=>by rw[e,hq.1]at hn; cases hn
    simp[hset,this,hn]
   .obtain⟨b,hb⟩:=zER (fun _ _ _ e=>vIB e) hcv r hm
    rw[hn]at hb; cases hb
   .unfold opD
    rw[ho]
    right; right; left
    have hg:=h1 g (by rw[ho]; simp[Op.operands,Call.operands]);have ha:args.toList.map (ev G s2.t)=args.toList.map (ev G s.t):=rBH fun x hx=>h1 x (by rw[ho]; simp[Op.operands,Call.operands]; exact rAZ (by simpa using hx))
    refine⟨f,first,captured,m,ds,q,b0,v,b1,by rw[hg]; exact hev,by rw[ha]; exact zKK hcv (fun r hr=>h2 r (by rw[hrd]; exact rA8 _ hr)),hC,⟨(h2 q (by rw[hrd]; simp)).trans hq.1,(h3 q (by rw[hwr]; simp)).trans hq.2.1,hq.2.2⟩,rfl,?_,rfl,hrd,hwr⟩;rw[hwr]; exact zID _ _ _ _
  rotate_left
  .refine⟨fun r hr=>?_,fun r hr hn=>⟨?_,fun hm=>?_⟩,rfl,fun s2 h1 h2 h3=>?_⟩
   .rw [hwr] at hr
    cases qr with
    | none => have:r≠key:=by simpa [uAQ]using hr
              simp[vEB,hset,this]
    | some q => have:r≠q.1/\r≠key:=by simpa [uAQ]using hr
                simp[vEB,hset,this.1,this.2]
   .cases qr with
    | none=>simp[vEB,hset,hr,hn]
    | some q=>by_cases e:r=q.1<;>simp[vEB,hset,hr,hn]
   .obtain⟨b,hb⟩:=zER (fun _ _ _ e=>vIB e) hcv r hm
    rw[hn]at hb; cases hb
   .unfold opD
    rw[ho]
    right; left
    have hg:=h1 g (by rw[ho]; simp[Op.operands,Call.operands]);have ha:args.toList.map (ev G s2.t)=args.toList.map (ev G s.t):=rBH fun x hx=>h1 x (by rw[ho]; simp[Op.operands,Call.operands]; exact rAZ (by simpa using hx))
    refine⟨f,first,captured,m,ds,qr,res,b1,by rw[hg]; exact hev,by rw[ha]; exact zKK hcv (fun r hr=>h2 r (by rw[hrd]; exact rBW _ hr)),hC,fun r b e=>?_,rfl,?_,rfl,hrd,hwr⟩
    .obtain⟨k1,k2,k3,k4⟩:=hq r b e
     refine⟨(h2 r (by rw[hrd,e]; simp[uAQ])).trans k1,(h3 r (by rw[hwr,e]; simp[uAQ])).trans k2,k3,k4⟩
    .rw[hwr]
     cases qr with
     | none=>exact zID _ _ _ _
     | some q=>exact vPG _ _ _ _ _
  refine⟨fun q hq=>?_,fun q hq hn=>⟨?_,fun hm=>?_⟩,rfl,fun s2 h1 h2 h3=>?_⟩
  .rw[hwr]at hq
   cases r with
   | data d=>rfl
   | fresh els sz agg => have:q≠key:=by simpa [CRes.keys]using hq
                         simp[CRes.heap,hset,this]
   | gh i j b => have:q≠0:=by simpa [CRes.keys]using hq
                 simp[CRes.heap,hset,this]
   | seq xs=>rfl
   | own=>rfl
   | wrt=>rfl
   | frm=>rfl
  .cases r with
   | data d=>exact hn
   | fresh els sz agg=>simp[CRes.heap,hset,hq,hn]
   | gh i j b => have:q≠0:=fun e=>by
                  have h0:s.h 0=some (vC6 i):=hok;rw[e,h0]at hn; cases hn
                 simp[CRes.heap,hset,this,hn]
   | seq xs=>exact hn
   | own=>exact hn
   | wrt=>exact hn
   | frm=>exact hn
  .obtain⟨b,hb⟩:=zBX hfr q hm
   rw[hn]at hb; cases hb
  .unfold opD
   rw[ho];have hg:=h1 g (by rw[ho]; simp[Op.operands,Call.operands]);have ha:args.toList.map (ev G s2.t)=args.toList.map (ev G s.t):=rBH fun x hx=>h1 x (by rw[ho]; simp[Op.operands,Call.operands]; exact rAZ (by simpa using hx))
   left
   refine⟨f,pre,rest,m,ds,r,by rw[hg,ha]; exact hcal,zI0 hfr (fun q hq=>h2 q (by rw[hrd]; exact rBW _ hq)),hC,?_,rfl,?_,rfl,hrd,hwr⟩
   .cases r with
    | gh i j b=>exact(h2 0 (by rw[hrd]; simp[CRes.rds])).trans hok
    | seq xs=>exact hok
    | own=>exact hok
    | wrt=>exact hok
    | frm=>exact hok
    | _=>trivial
   rw[hwr];cases r with
   | data d=>rfl
   | fresh els sz agg=>exact zID _ _ _ _
   | gh i j b=>exact zID _ _ _ _
   | seq xs=>rfl
   | own=>rfl
   | wrt=>rfl
   | frm=>rfl
 .rename_i op hne
  obtain⟨he,rfl,hf⟩:=hd;have L:=vK3 he;have hz:∀ z:Fz,vCI z fp.fz=z:=fun z=>by rw[hf]; funext r; simp[vCI]
  refine⟨L.out,fun r hr hn=>⟨L.fresh r hr hn,by rw[hf]; simp⟩,(hz _).symm,fun s2 h1 h2 h3=>?_⟩;unfold opD
  split
  .rename_i g args ts ho
   exact absurd ho (hne g args ts)
  .exact⟨L.loc s2.t s2.h s2.z h1 h2 h3,hz _,hf⟩
theorem vT3{t:Tm}{i j:Nat}{u v:PV}(h:i≠j):vGB (vGB t i u) j v=vGB (vGB t j v) i u:=by
 funext k
 simp only[vGB];by_cases h1:k=i
 .rw[h1]
  simp[h]
 .by_cases h2:k=j
  .rw[h2]; simp[Ne.symm h]
  .simp[h1,h2]
theorem put_comm{s:St}{d e:Option Nat}{u v:PV}(h:∀ i,d=some i->e≠some i):put (put s d u) e v=put (put s e v) d u:=by
 cases d with
 | none=>rfl
 | some i =>
   cases e with
   | none=>rfl
   | some j =>
     have:i≠j:=fun e=>h i rfl (by rw[e])
     simp only[put,vT3 this]
theorem uML{s:St}{d:Option Nat}{u:PV}{i:Nat}(h:d≠some i):(put s d u).t i=s.t i:=by
 cases d with
 | none=>rfl
 | some j =>
   have:i≠j:=fun e=>h (by rw[e])
   simp[put,vGB,this]
@[simp] theorem vJR {s:St} {d:Option Nat} {u:PV}:(put s d u).h=s.h:=by cases d<;>rfl
@[simp] theorem zNA {s:St} {d:Option Nat} {u:PV}:(put s d u).z=s.z:=by cases d<;>rfl
@[simp] theorem zFG {s:St} {d:Option Nat} {u:PV}:(put s d u).nx=s.nx:=by cases d<;>rfl
theorem zC9{ops:List Oper}{o:Oper}{t t2:Tm}(h:∀ d∈o.looksAt ops.toArray,t2 d=t d):wants ops o t2=wants ops o t:=by
 unfold wants;cases hg:o.guard with
 | none=>rfl
 | some q =>
   obtain⟨j,want⟩:=q;simp only;cases hd:(ops[j]?).bind (·.dst) with
   | none=>rfl
   | some d =>
     have:t2 d=t d:=h d (by simp[Oper.looksAt,hg,hd]);simp only[this]
theorem zJ6{ops:List Oper}{o:Oper}{t t2:Tm}(h:∀ d∈o.looksAt ops.toArray,t2 d=t d):∀ x∈o.op.operands.toList,ev G t2 x=ev G t x:=fun x hx=>uD9 fun i hi=>h i (by
 unfold Oper.looksAt;rw[rAY]
 left
 rw[List.mem_filterMap]
 exact⟨x,hx,by rw[hi]⟩)
theorem uAG{a b:FP}(h:FP.apart a b=true):(∀ k∈a.wr,k∉b.rd/\k∉b.wr/\k∉b.fz)/\(∀ k∈b.wr,k∉a.rd/\k∉a.fz):=by
 simp only[FP.apart,rAQ,rBF,rES,contains_false]at h;exact⟨fun k hk=>⟨(h.1 k hk).1.1,(h.1 k hk).1.2,(h.1 k hk).2⟩,fun k hk=>h.2 k hk⟩
theorem vYO(z:Fz)(a b:List Nat):vCI (vCI z a) b=vCI (vCI z b) a:=by
 funext r
 simp only[vCI];cases a.contains r<;>cases b.contains r<;>simp
theorem zQQ{ops:List Oper}{base:Nat}{fps:Nat->FP}{i j:Nat}{oi oj:Oper}(hi:ops[i]?=some oi)(hj:ops[j]?=some oj)(ha:oi.apart ops.toArray oj=true)(hf:FP.apart (fps i) (fps j)=true)
 {s s1 s2:St} (h1:vF6 P G C ops base fps i s s1) (h2:vF6 P G C ops base fps j s1 s2):∃ s1',vF6 P G C ops base fps j s s1'/\vF6 P G C ops base fps i s1' s2:=by
 obtain⟨a1,a2,a3⟩:=Oper.apart_spec ha;obtain⟨f1,f2⟩:=uAG hf;obtain⟨oi',hi',h1⟩:=h1;rw[hi]at hi'; cases hi';obtain⟨oj',hj',h2⟩:=h2;rw[hj]at hj'; cases hj';have look_j:∀ (s:St) (u:PV),∀ d∈oj.looksAt ops.toArray,s.t d=(put s oi.dst u).t d:=fun s u d hd=>(uML (fun e=>a1 d e hd)).symm
 have look_i:∀ (s:St) (u:PV),∀ d∈oi.looksAt ops.toArray,(put s oj.dst u).t d=s.t d:=fun s u d hd=>uML (fun e=>a3 d e hd)
 rcases h1 with⟨w1,v1,k1,z1,d1,rfl⟩ | ⟨w1,rfl⟩
 .obtain⟨o1,o2,o3,o4⟩:=zEQ d1
  rcases h2 with⟨w2,v2,k2,z2,d2,rfl⟩ | ⟨w2,rfl⟩
  .obtain⟨p1,p2,p3,p4⟩:=zEQ d2
   simp only[vJR,zNA]at p1 p2 p3
   have e1:=p4 s (zJ6 (fun d hd=>by have:=look_j { s with h:=k1,z:=z1 } v1 d hd; exact this)) (fun r hr=>by
    simp only[vJR]
    exact(o1 r (fun hw=>(f1 r hw).1 hr)).symm) (fun r hr=>by
    simp only[zNA];rw[o3];simp only[vCI];have:(fps i).fz.contains r=false:=contains_false.2 (f2 r hr).2
    rw[this]; rfl)
   refine⟨put { s with h:=over (fps j).wr k2 s.h,z:=vCI s.z (fps j).fz } oj.dst v2,⟨oj,hj,rAW ⟨?_,v2,_,_,e1,rfl⟩⟩,⟨oi,hi,rAW ⟨?_,v1,over (fps i).wr k1 (over (fps j).wr k2 s.h),vCI (vCI s.z (fps j).fz) (fps i).fz,?_,?_⟩⟩⟩
   .rw[<- w2]
    exact(zC9 (fun d hd=>(look_j { s with h:=k1,z:=z1 } v1 d hd).symm)).symm
   .rw[<- w1]
    exact zC9 (fun d hd=>look_i { s with h:=over (fps j).wr k2 s.h,z:=vCI s.z (fps j).fz } v2 d hd)
   .have:=o4 (put { s with h:=over (fps j).wr k2 s.h,z:=vCI s.z (fps j).fz } oj.dst v2) (zJ6 (fun d hd=>look_i { s with h:=over (fps j).wr k2 s.h,z:=vCI s.z (fps j).fz } v2 d hd)) (fun r hr=>by
     simp only[vJR,over];have:(fps j).wr.contains r=false:=contains_false.2 (fun hw=>(f2 r hw).1 hr)
     rw[this]; rfl) (fun r hr=>by
     simp only[zNA,vCI];have:(fps j).fz.contains r=false:=contains_false.2 (f1 r hr).2.2
     rw[this]; rfl)
    simpa only[vJR,zNA]using this
   .have hz:z2=vCI (vCI s.z (fps j).fz) (fps i).fz:=by rw[p3,o3,vYO]
    have hk:k2=over (fps i).wr k1 (over (fps j).wr k2 s.h):=by
     funext r
     simp only[over];by_cases hwi:(fps i).wr.contains r=true
     .rw[rAV hwi]
      have:r∉(fps j).wr:=(f1 r (by simpa using hwi)).2.1;exact p1 r this
     .rw[rAN hwi]
      by_cases hwj:(fps j).wr.contains r=true
      .rw[rAV hwj]
      .rw[rAN hwj]
       rw[p1 r (by simpa using hwj)];exact o1 r (by simpa using hwi)
    rw[<- hz,<- hk];have:∀ (q:St) (d:Option Nat) (u:PV) (hh:Hp) (zz:Fz),({ put q d u with h:=hh,z:=zz }:St)=put { q with h:=hh,z:=zz } d u:=fun q d u hh zz=>by cases d<;>rfl
    rw[this,this];exact put_comm a2
  .refine⟨put s oj.dst (.tup []),⟨oj,hj,rAZ ⟨?_,rfl⟩⟩,⟨oi,hi,rAW ⟨?_,v1,over (fps i).wr k1 s.h,vCI s.z (fps i).fz,?_,?_⟩⟩⟩
   .rw[<- w2]
    exact(zC9 (fun d hd=>(look_j { s with h:=k1,z:=z1 } v1 d hd).symm)).symm
   .rw[<- w1]
    exact zC9 (fun d hd=>look_i s (.tup []) d hd)
   .have:=o4 (put s oj.dst (.tup [])) (zJ6 (fun d hd=>look_i s (.tup []) d hd)) (fun r _=>by simp only[vJR]) (fun r _=>by simp only[zNA])
    simpa only[vJR,zNA]using this
   .have hk:k1=over (fps i).wr k1 s.h:=by
     funext r
     simp only[over];by_cases hwi:(fps i).wr.contains r=true
     .rw[rAV hwi]
     .rw[rAN hwi]; exact o1 r (by simpa using hwi)
    rw[<- hk,<- o3];have:∀ (q:St) (d:Option Nat) (u:PV) (hh:Hp) (zz:Fz),({ put q d u with h:=hh,z:=zz }:St)=put { q with h:=hh,z:=zz } d u:=fun q d u hh zz=>by cases d<;>rfl
    rw[this];exact put_comm a2
 .rcases h2 with⟨w2,v2,k2,z2,d2,rfl⟩ | ⟨w2,rfl⟩
  .obtain⟨p1,p2,p3,p4⟩:=zEQ d2
   simp only[vJR,zNA]at p1 p2 p3;have e1:=p4 s (zJ6 (fun d hd=>look_j s (.tup []) d hd)) (fun r _=>by simp only[vJR]) (fun r _=>by simp only[zNA]);refine⟨put { s with h:=over (fps j).wr k2 s.h,z:=vCI s.z (fps j).fz } oj.dst v2,⟨oj,hj,rAW ⟨?_,v2,_,_,e1,rfl⟩⟩,⟨oi,hi,rAZ ⟨?_,?_⟩⟩⟩
   .rw[<- w2]
    exact(zC9 (fun d hd=>(look_j s (.tup []) d hd).symm)).symm
   .rw[<- w1]
    exact zC9 (fun d hd=>look_i { s with h:=over (fps j).wr k2 s.h,z:=vCI s.z (fps j).fz } v2 d hd)
   .have hk:k2=over (fps j).wr k2 s.h:=by
     funext r
     simp only[over];by_cases hwi:(fps j).wr.contains r=true
     .rw[rAV hwi]
     .rw[rAN hwi]; exact p1 r (by simpa using hwi)
    rw[<- hk,<- p3];have:∀ (q:St) (d:Option Nat) (u:PV) (hh:Hp) (zz:Fz),({ put q d u with h:=hh,z:=zz }:St)=put { q with h:=hh,z:=zz } d u:=fun q d u hh zz=>by cases d<;>rfl
    rw[this];exact put_comm a2
  .refine⟨put s oj.dst (.tup []),⟨oj,hj,rAZ ⟨?_,rfl⟩⟩,⟨oi,hi,rAZ ⟨?_,?_⟩⟩⟩
   .rw[<- w2]
    exact(zC9 (fun d hd=>(look_j s (.tup []) d hd).symm)).symm
   .rw[<- w1]
    exact zC9 (fun d hd=>look_i s (.tup []) d hd)
   .exact put_comm a2
def uOG(P:Program)(G:Gl)(C:vA8)(ops:List Oper)(base:Nat)(fps:Nat->FP)(K:St->Prop):Nat->Array Bool->St->Prop
 | 0,listed,s=>Region.ready .any ops.toArray listed=[]/\K s
 | fuel+1,listed,s=>(Region.ready .any ops.toArray listed=[]->K s)/\∀ i∈Region.ready .any ops.toArray listed,∃ s',vF6 P G C ops base fps i s s'/\uOG P G C ops base fps K fuel (listed.setIfInBounds i true) s'
def vF0(ops:List Oper)(l:Array Bool):Prop:=∀ j o,ops[j]?=some o->l.getD j false=true->∀ e∈o.after,Region.binds .any e=true->l.getD e.on false=true
theorem zOO{l:Array Bool}{i j:Nat}(h:l.getD j false=true):(l.setIfInBounds i true).getD j false=true:=by
 by_cases e:i=j
 .subst e
  by_cases hs:i<l.size
  .simp[hs]
  .simp[rCS (rDE hs)]at h
 .rw[getD_set_ne false e]; exact h
theorem zMY{ops:List Oper}{l:Array Bool}{i:Nat}(h:vF0 ops l)(hi:i∈Region.ready .any ops.toArray l):vF0 ops (l.setIfInBounds i true):=fun j o ho hj e he hb=>by
 by_cases hij:i=j
 .subst hij
  obtain⟨_,o',ho',hall⟩:=mem_ready.1 hi
  have : o' = o := by have h1:ops[i]?=some o':=by simpa using ho'
                      rw[ho]at h1; cases h1; rfl
  subst this;exact zOO (hall e he hb)
 .rw[getD_set_ne false hij]at hj
  exact zOO (h j o ho hj e he hb)
theorem zMO{ops:List Oper}{l:Array Bool}{k:Nat}(h:vF0 ops l):∀ (f:Nat) (o:Oper),(∀ e∈o.after,Region.binds .any e=true->l.getD e.on false=true)->vCZ ops f o k=true->l.getD k false=true
 | 0,_,_,hr=>by unfold vCZ at hr; cases hr
 | f + 1,o,ho,hr=>by
   unfold vCZ at hr;rw[rCL]at hr;rcases hr with hr | hr
   .rw[Array.any_eq_true]at hr
    obtain⟨i,hi,h1⟩:=hr;simp only[rAQ,rDL]at h1;have:=ho _ (Array.getElem_mem hi) h1.2
    rwa [h1.1]at this
   .rw[Array.any_eq_true]at hr
    obtain⟨i,hi,h1⟩:=hr;rw[rAQ]at h1;have h2:=ho _ (Array.getElem_mem hi) h1.1;have h3:=h1.2
    split at h3
    .rename_i o' ho'
     exact zMO h f o' (fun e he hb=>h _ o' ho' h2 e he hb) h3
    .cases h3
theorem vTG {ops:List Oper} {base:Nat} {fps:Nat->FP} {K:St->Prop} {i:Nat} {oi:Oper} (hi:ops[i]?=some oi):∀ (fuel:Nat) (listed:Array Bool) (s s1:St),vF0 ops listed ->
 (∀ j oj,ops[j]?=some oj->j≠i->listed.getD j true=false->((∀ e∈oj.after,Region.binds .any e=true->e.on≠i)->oi.apart ops.toArray oj=true)/\(vCZ ops 4 oj i=false->FP.apart (fps i) (fps j)=true)) ->
 i∈Region.ready .any ops.toArray listed->vF6 P G C ops base fps i s s1->uOG P G C ops base fps K fuel (listed.setIfInBounds i true) s1->uOG P G C ops base fps K (fuel+1) listed s:=by
 intro fuel
 induction fuel with
 | zero =>
   intro listed s s1 hcl hfree hr hd H;refine⟨fun h=>(by rw[h]at hr; cases hr),fun j hj=>?_⟩;by_cases hji:j=i
   .subst hji; exact⟨s1,hd,H⟩
   .have:=ready_mono hj hji
    rw[H.1]at this;cases this
 | succ fuel ih =>
   intro listed s s1 hcl hfree hr hd H;refine⟨fun h=>(by rw[h]at hr; cases hr),fun j hj=>?_⟩;by_cases hji:j=i
   .subst hji; exact⟨s1,hd,H⟩
   .obtain⟨s2,d2,H2⟩:=H.2 j (ready_mono hj hji)
    obtain⟨hun,oj,hoj,hall⟩:=mem_ready.1 hj;have hoj':ops[j]?=some oj:=by simpa using hoj
    have hnot:∀ e∈oj.after,Region.binds .any e=true->e.on≠i:=by
     intro e he hb heq;have h1:=hall e he hb;have h0:=(mem_ready.1 hr).1;rw[heq]at h1;rcases rCZ i listed.size with h' | h'
     .simp[h']at h0 h1; rw[h0]at h1; cases h1
     .simp[rCS h']at h1
    have hrea:vCZ ops 4 oj i=false:=by
     cases hrb:vCZ ops 4 oj i with
     | false=>rfl
     | true =>
       have h1:=zMO hcl 4 oj hall hrb;have h0:=(mem_ready.1 hr).1;rcases rCZ i listed.size with h' | h'
       .simp[h']at h0 h1; rw[h0]at h1; cases h1
       .simp[rCS h']at h1
    obtain⟨q1,q2⟩:=hfree j oj hoj' hji (by simpa using hun);obtain⟨s1',g1,g2⟩:=zQQ hi hoj' (q1 hnot) (q2 hrea) hd d2;refine⟨s1',g1,ih (listed.setIfInBounds j true) s1' s2 (zMY hcl hj) (fun k ok hk hki hkun=>?_) (ready_mono hr (Ne.symm hji)) g2 ?_⟩
    .refine hfree k ok hk hki ?_
     by_cases hjk:j=k
     .subst hjk; simpa using hun
     .rw[getD_set_ne true hjk]at hkun; exact hkun
    .rw[rGM _ _ hji]
     exact H2
def vEY(P:Program)(G:Gl)(C:vA8)(ops:List Oper)(base:Nat)(fps:Nat->FP)(K:St->Prop):Nat->Nat->St->Prop
 | 0,_,s=>K s
 | m+1,i,s=>∃ s',vF6 P G C ops base fps i s s'/\vEY P G C ops base fps K m (i+1) s'
theorem vQ9{ops:List Oper}{base:Nat}{fps:Nat->FP}{K:St->Prop}
 (hp:∀ i j oj,i<j->ops[j]?=some oj->vCZ ops 4 oj i=false->FP.apart (fps i) (fps j)=true) :
 ∀ (m k:Nat) (listed:Array Bool) (s:St),k+m=ops.length->vF0 ops listed->(∀ j,j<k->listed.getD j true=true)->Region.lexFrom .any ops.toArray m k listed=true->vEY P G C ops base fps K m k s->uOG P G C ops base fps K m listed s
 | 0,k,listed,s,_,_,_,hB,h=>⟨by simpa [Region.lexFrom]using hB,h⟩
 | m + 1,k,listed,s,hl,hcl,hdone,hB,h=>by
   simp only[Region.lexFrom,rAQ]at hB;obtain⟨⟨hr,hf⟩,hB'⟩:=hB;obtain⟨s',hd,hc⟩:=h;have hk:k<ops.length:=by omega
   have h0:ops[k]?=some ops[k]:=rAR hk;have hfree:=Region.free_spec (ops:=ops.toArray) (oi:=ops[k]) (by simp[hk]) hf;have hr':k∈Region.ready .any ops.toArray listed:=by simpa using hr
   refine vTG h0 m listed s s' hcl (fun j oj hj hjk hun=>⟨hfree j oj (by simpa using hj) hjk hun,fun hno=>?_⟩) hr' hd
    (vQ9 hp m (k+1) _ s' zom (zMY hcl hr') (fun j hj=>?_) hB' hc)
   .have hlt:k<j:=by
     rcases rEJ hjk with h | h
     .have:=hdone j h; rw[hun]at this; cases this
     .exact h
    exact hp k j oj hlt hj hno
   .rcases rCB (rCF hj) with h | h
    .have:=hdone j h
     rw[getD_set_ne true zom]; exact this
    .subst h
     by_cases hs:j<listed.size
     .simp[hs]
     .simp[rCS (rDE hs)]
end
open Go.RowKit
def vB8(N:Nat):Operand->Bool
 | .tmp t=>decide (t<N)
 | _=>true
def vBR(N:Nat)(o:Oper):Bool:=(match o.dst with | some d=>decide (d<N) | none=>true) && o.op.operands.toList.all (vB8 N)
def noR:Code->Bool
 | .rangeFunc ..=>false
 | .seq a b=>noR a && noR b
 | .cond _ a b=>noR a && noR b
 | .block _ c=>noR c
 | .loop c=>noR c
 | .scope c=>noR c
 | _=>true
def vBU(N:Nat):Code->Bool
 | .skip | .label _ | .exit _ | .ret=>true
 | .seq a b=>vBU N a && vBU N b
 | .cond c a b=>vB8 N c && (vBU N a && vBU N b)
 | .block _ c=>vBU N c
 | .loop c=>vBU N c
 | .scope c=>vBU N c
 | .region _ ops D=>ops.toList.all (vBR N) && (!D || Region.lexB .any ops)
 | .rangeFunc g ps x y=>vB8 N g && (ps.toList.all (fun p=>decide (p<N)) && (noR x && noR y && (vBU N x && vBU N y)))
 | _=>false
def mkD(D:Nat):Deferred:={ target:=.collected D,args:=#[] }
structure Rel(E:Env)(G:Gl)(N:Nat)(df:List Deferred)(s:St)(a:Act)(w:World)(A:Nat->Prop)(κ:Ka):Prop where
 hr:HR E G w A κ s.h s.z
 fresh:vDC s.nx κ s.h s.z
 n0:E.n0<=s.nx
 tm:∀ i,i<N->RV w A κ (s.t i) (a.tmps.getD i undef)
 size:a.tmps.size=N
 df:∃ Ms,E.M=Ms++E.M0/\a.defers=Ms.map mkD++df
def vEP(X:Env->Prop)(F:Env)(G:Gl)(N:Nat)(df:List Deferred)(s:St)(a:Act)(w:World)(A:Nat->Prop)(κ:Ka):Prop:=∃ E,X E/\E.re F=E/\Rel E G N df s a w A κ
theorem zM9{E F:Env}(h:E.re F=E):E.n0=F.n0:=by rw[<- h]; rfl
theorem zJ3{E E' F:Env}(h:E.re F=E)(h':E'.re E=E'):E'.re F=E':=by rw[<- h',<- h]; rfl
theorem uPC{E E':Env}(h':E'.re E=E'):E'.M0=E.M0:=by rw[<- h']; rfl
section
variable {P:Program} {E:Env} {G:Gl} {N:Nat} {df:List Deferred} {w:World} {A:Nat->Prop} {κ:Ka} {s:St} {a:Act}
theorem zIQ(H:HR E G w A κ s.h s.z)(ht:∀ i,i<N->RV w A κ (s.t i) (a.tmps.getD i undef)){x:Operand}(hx:vB8 N x=true):RV w A κ (ev G s.t x) (a.eval x):=by
 cases x with
 | tmp t=>exact ht t (by simpa [vB8]using hx)
 | const v=>exact zLZ v
 | global g =>
   simp only[ev,Act.eval]
   split
   .rename_i e he; exact H.glob g e he
   .exact .any _
 | func f=>exact .func _ [] [] _ _ rfl rfl (fun i d hd=>by simp at hd) (fun i d hd=>by simp at hd)
theorem zOJ(H:HR E G w A κ s.h s.z)(ht:∀ i,i<N->RV w A κ (s.t i) (a.tmps.getD i undef)){o:Oper}(ho:vBR N o=true):OkOp G w A κ s.t a.eval o.op:=fun x hx=>by
 simp only[vBR,rAQ,rBF]at ho;exact zIQ H ht (ho.2 x hx)
theorem zMQ{t:Tm}{dst:Option Nat}{v:PV}{v':Value}(hs:a.tmps.size=N)(hd:∀ d,dst=some d->d<N)(ht:∀ i,i<N->RV w A κ (t i) (a.tmps.getD i undef))(hv:RV w A κ v v') :
 ∀ i,i<N->RV w A κ ((match dst with | some d=>vGB t d v | none=>t) i) ((a.put dst v').tmps.getD i undef):=by
 intro i hi;cases dst with
 | none=>exact ht i hi
 | some d =>
   have hdN:=hd d rfl;simp only[Act.put,vGB];by_cases h:i=d
   .subst h
    simpa [Array.getD,hs,hi]using hv
   .rw[rAN h]
    have:=ht i hi;have hne:d≠i:=fun e=>h e.symm
    simpa [Array.getD,hs,hi,Array.getElem_setIfInBounds,hne]using this
theorem zEK{dst:Option Nat}{v':Value}(hs:a.tmps.size=N):(a.put dst v').tmps.size=N:=by
 cases dst<;>simp[Act.put,hs]
theorem uFU{dst:Option Nat}{v':Value}{df:List Deferred}(hs:a.defers=df):(a.put dst v').defers=df:=by
 cases dst<;>simp[Act.put,hs]
theorem zG3{E:Env}{dst:Option Nat}{v':Value}{df:List Deferred}(hs:∃ Ms,E.M=Ms++E.M0/\a.defers=Ms.map mkD++df):∃ Ms,E.M=Ms++E.M0/\(a.put dst v').defers=Ms.map mkD++df:=by
 obtain⟨Ms,h1,h2⟩:=hs;exact⟨Ms,h1,uFU h2⟩
theorem zCX{o:Oper}(ho:vBR N o=true):∀ d,o.dst=some d->d<N:=fun d hd=>by
 simp only[vBR,hd,rAQ,rAX]at ho;exact ho.1
theorem zGH {ops:List Oper} (hf:∀ o∈ops,vBR N o=true) (hs:a.tmps.size=N) (ht:∀ i,i<N->RV w A κ (s.t i) (a.tmps.getD i undef)) {o:Oper} {b:Bool} (h:wants ops o s.t=some b) :
 Region.wanted o (yielded ops.toArray a.tmps)=b:=by
 unfold wants at h;unfold Region.wanted;cases hg:o.guard with
 | none=>rw[hg]at h; simpa using h
 | some q =>
   obtain⟨j,want⟩:=q;rw[hg]at h;simp only at h ⊢;cases hd:(ops[j]?).bind (·.dst) with
   | none=>rw[hd]at h; cases h
   | some d =>
     rw[hd]at h;simp only at h
     have hdN:d<N:=by
      cases ho:ops[j]? with
      | none=>rw[ho]at hd; cases hd
      | some oj =>
        rw[ho]at hd;exact zCX (hf oj (rAT ho)) d hd
     have hv:=ht d hdN;have hget:a.tmps[d]?=some (a.tmps.getD d undef):=by simp[Array.getD,hs,hdN]
     split at h
     .rename_i b' hb
      rw[hb]at hv;cases h
      simp[yielded,hd,hget,hv.bool_inv]
     .rename_i hb
      rw[hb]at hv;cases h
      obtain⟨vs,hvs,_⟩:=hv.tup_inv;simp[yielded,hd,hget,hvs]
     .cases h
theorem zLQ{t:Tm}{w':World}{A':Nat->Prop}{κ':Ka}(hA:∀ b,A b->A' b)(hc:∀ b o,A b->w'.cell? ⟨b,o,none⟩=w.cell? ⟨b,o,none⟩)(hk:∀ r x,κ r=some x->κ' r=some x)
 (ht:∀ i,i<N->RV w A κ (t i) (a.tmps.getD i undef)):∀ i,i<N->RV w' A' κ' (t i) (a.tmps.getD i undef):=fun i hi=>(ht i hi).mono hA hc hk
theorem zIF{C:vA8}{I:vB2}{D:Bool}{o:Oper}{K:FP->St->Prop}(h:vFC P G C I D o K s) :
 (∃ fp v h' z',opD P G C s.nx o s fp v h' z'/\K fp (put { s with h:=h',z:=z',nx:=s.nx+1 } o.dst v)) \/
 (D=false/\∃ g args ts f first captured,o.op=.call { callee:=.value g,args,argTypes:=ts }/\ev G s.t g=.func (.func f) first captured /\
   I f (first++args.toList.map (ev G s.t)++captured) (fun v s'=>K ⟨[],[],[]⟩ (put { s' with t:=s.t } o.dst v)) s):=by
 unfold vFC at h
 split at h
 .rename_i g args ts ho
  split at h
  .rename_i f first captured hev
   rcases h with⟨n,ds,ks,r,h1,h2,h4,h3⟩ | ⟨hd,h⟩ | ⟨n,ds,ks,q,res,b1,h1,h2,h4,h3⟩ | ⟨n,ds,ks,r,b0,v,b1,h1,h2,h4,h3⟩ | ⟨ds,rs,bs,v,bs',h1,h2,h4,h3⟩
   rotate_left 4
   .left
    refine⟨⟨rs,rs,[]⟩,v,vE5 rs s.h rs bs',vCI s.z [],?_,h3⟩;unfold opD;rw[ho];exact rAZ (rAZ (rAZ ⟨f,first,captured,ds,rs,bs,v,bs',hev,h1,h2,h4,rfl,rfl,rfl,rfl,rfl,rfl⟩))
   rotate_left 3
   .left
    refine⟨⟨r::ks,[r],ks⟩,v,hset s.h r (some b1),vCI s.z ks,?_,h3⟩;unfold opD;rw[ho];exact rAZ (rAZ (rAW ⟨f,first,captured,n,ds,r,b0,v,b1,hev,h1,h2,h4,rfl,rfl,rfl,rfl,rfl⟩))
   rotate_left 2
   .left
    refine⟨⟨uAQ q++ks,uAQ q++[s.nx],ks⟩,rk s.nx res,hset (vEB s.h q) s.nx (some b1),vCI s.z ks,?_,h3⟩;unfold opD;rw[ho];exact rAZ (rAW ⟨f,first,captured,n,ds,q,res,b1,hev,h1,h2,h4,rfl,rfl,rfl,rfl,rfl⟩)
   .left
    refine⟨⟨r.rds++ks,r.keys s.nx,ks⟩,r.val s.nx,r.heap s.nx s.h,vCI s.z ks,?_,h3⟩;unfold opD;rw[ho];exact rAW ⟨f,[],_,n,ds,r,rAW ⟨first,captured,hev,rfl,rfl⟩,h1,h2,h4,rfl,rfl,rfl,rfl,rfl⟩
   .exact rAZ ⟨hd,g,args,ts,f,first,captured,ho,hev,h⟩
  .rename_i l hev
   obtain⟨n,ds,ks,i,j,b,h1,h2,h4,h3⟩:=h
   left
   refine⟨⟨0::ks,[0],ks⟩,.bool b,hset s.h 0 (some (vC6 j)),vCI s.z ks,?_,h3⟩;unfold opD;rw[ho];exact rAW ⟨l,[.anyb],_,n,ds,.gh i j b,rAZ ⟨hev,rfl,rfl,rfl⟩,h1,h2,h4,rfl,rfl,rfl,rfl,rfl⟩
  .exact h.elim
 .rename_i op hne
  split at h
  .rename_i v h' rd wr he
   left
   refine⟨⟨rd,wr,[]⟩,v,h',s.z,?_,h⟩;unfold opD
   split
   .rename_i g args ts ho
    exact absurd ho (hne g args ts)
   .exact⟨he,rfl,rfl⟩
  .exact h.elim
theorem vNU{ops:List Oper}{o:Oper}{fp:FP}{acc:List (Nat×FP)}(h:vCE ops o fp acc=true):∀ k f,(k,f)∈acc->vCZ ops 4 o k=false->FP.apart f fp=true:=by
 intro k f hm hno;simp only[vCE,rBF,rCL]at h;rcases h (k,f) hm with h | h
 .rw[hno]at h; cases h
 .exact h
theorem zGA {C:vA8} {I:vB2} {ops:List Oper} {base:Nat} {K:St->Prop}:∀ (m i:Nat) (acc:List (Nat×FP)) (l:List Oper) (s:St),i+m=ops.length->l=ops.drop i->s.nx=base+i ->
 wpOps P G C I true ops i acc l K s ->
 ∃ fps:Nat->FP,vEY P G C ops base fps (fun s'=>K { s' with nx:=base+ops.length }) m i { s with nx:=base } /\
   (∀ j oj,i<=j->ops[j]?=some oj->(∀ k f,(k,f)∈acc->vCZ ops 4 oj k=false->FP.apart f (fps j)=true) /\
     ∀ k,i<=k->k<j->vCZ ops 4 oj k=false->FP.apart (fps k) (fps j)=true)
 | 0,i,acc,l,s,hi,hl,hn,h=>by
   have hi':i=ops.length:=by omega
   subst hi';have:l=[]:=by rw[hl]; simp
   subst this;refine⟨fun _=>⟨[],[],[]⟩,?_,fun j oj hj hoj=>?_⟩
   .have e:({ s with nx:=base+ops.length }:St)=s:=by rw[<- hn]
    show K _
    rw[e];exact h
   .have:=(rAP.1 hoj).1; omega
 | m + 1,i,acc,l,s,hi,hl,hn,h=>by
   have hlt:i<ops.length:=by omega
   have h0:ops[i]?=some ops[i]:=rAR hlt;have hl':l=ops[i]::ops.drop (i+1):=by rw[hl]; exact rBT hlt
   rw[hl']at h
   have run:wants ops ops[i] s.t=some true->vFC P G C I true ops[i] (fun fp s'=>(true=true->vCE ops ops[i] fp acc=true)/\wpOps P G C I true ops (i+1) ((i,fp)::acc) (ops.drop (i+1)) K s') s ->
    ∃ fps:Nat->FP,vEY P G C ops base fps (fun s'=>K { s' with nx:=base+ops.length }) (m+1) i { s with nx:=base } /\
    (∀ j oj,i<=j->ops[j]?=some oj->(∀ k f,(k,f)∈acc->vCZ ops 4 oj k=false->FP.apart f (fps j)=true) /\
      ∀ k,i<=k->k<j->vCZ ops 4 oj k=false->FP.apart (fps k) (fps j)=true):=by
    intro hw hop;rcases zIF hop with⟨fp,v,h',z',hd,hcl,hrest⟩ | ⟨hf,_⟩
    .obtain⟨fps,hc,hp⟩:=zGA (base:=base) m (i+1) ((i,fp)::acc) (ops.drop (i+1)) _ zom rfl (by rw[zFG]; show s.nx+1=_; omega) hrest
     refine⟨fun k=>if k=i then fp else fps k,⟨put { s with h:=h',z:=z',nx:=base } ops[i].dst v,⟨ops[i],h0,rAW ⟨hw,v,h',z',?_,rfl⟩⟩,?_⟩,fun j oj hj hoj=>?_⟩
     .simp only[rCI]
      rw[<- hn];exact hd
     .have e:({ put { s with h:=h',z:=z',nx:=s.nx+1 } ops[i].dst v with nx:=base }:St)=put { s with h:=h',z:=z',nx:=base } ops[i].dst v:=by cases ops[i].dst<;>rfl
      rw[e]at hc
      have hcong:∀ (m j:Nat) (q:St),i<j->vEY P G C ops base fps (fun s'=>K { s' with nx:=base+ops.length }) m j q->vEY P G C ops base (fun k=>if k=i then fp else fps k) (fun s'=>K { s' with nx:=base+ops.length }) m j q:=by
       intro m
       induction m with
       | zero=>intro j q _ h; exact h
       | succ m ih =>
         intro j q hj ⟨q',hq,h⟩;refine⟨q',?_,ih (j+1) q' zom h⟩;unfold vF6 at hq ⊢;simp only[rAN (show ¬ j=i by omega)];exact hq
      exact hcong m (i+1) _ zom hc
     .by_cases hji:j=i
      .subst hji
       simp only[rCI];rw[h0]at hoj; cases hoj;exact⟨fun k f hm hno=>vNU (hcl rfl) k f hm hno,fun k h1 h2=>by omega⟩
      .obtain⟨p1,p2⟩:=hp j oj zom hoj
       simp only[rAN hji];refine⟨fun k f hm hno=>p1 k f (rA8 _ hm) hno,fun k h1 h2 hno=>?_⟩;by_cases hki:k=i
       .subst hki
        simp only[rCI];exact p1 k fp zsm hno
       .simp only[rAN hki]
        exact p2 k zom h2 hno
    .cases hf
   have pass:wants ops ops[i] s.t=some false->wpOps P G C I true ops (i+1) acc (ops.drop (i+1)) K (put { s with nx:=s.nx+1 } ops[i].dst (.tup [])) ->
    ∃ fps:Nat->FP,vEY P G C ops base fps (fun s'=>K { s' with nx:=base+ops.length }) (m+1) i { s with nx:=base } /\
    (∀ j oj,i<=j->ops[j]?=some oj->(∀ k f,(k,f)∈acc->vCZ ops 4 oj k=false->FP.apart f (fps j)=true) /\
      ∀ k,i<=k->k<j->vCZ ops 4 oj k=false->FP.apart (fps k) (fps j)=true):=by
    intro hw hrest;obtain⟨fps,hc,hp⟩:=zGA (base:=base) m (i+1) acc (ops.drop (i+1)) _ zom rfl (by rw[zFG]; show s.nx+1=_; omega) hrest;have hemp:∀ f:FP,FP.apart f ⟨[],[],[]⟩=true:=fun f=>by simp[FP.apart]
    have hemp':∀ f:FP,FP.apart ⟨[],[],[]⟩ f=true:=fun f=>by simp[FP.apart]
    refine⟨fun k=>if k=i then⟨[],[],[]⟩ else fps k,⟨put { s with nx:=base } ops[i].dst (.tup []),⟨ops[i],h0,rAZ ⟨hw,rfl⟩⟩,?_⟩,fun j oj hj hoj=>?_⟩
    .have e:({ put { s with nx:=s.nx+1 } ops[i].dst (.tup []) with nx:=base }:St)=put { s with nx:=base } ops[i].dst (.tup []):=by cases ops[i].dst<;>rfl
     rw[e]at hc
     have hcong:∀ (m j:Nat) (q:St),i<j->vEY P G C ops base fps (fun s'=>K { s' with nx:=base+ops.length }) m j q->vEY P G C ops base (fun k=>if k=i then⟨[],[],[]⟩ else fps k) (fun s'=>K { s' with nx:=base+ops.length }) m j q:=by
      intro m
      induction m with
      | zero=>intro j q _ h; exact h
      | succ m ih =>
        intro j q hj ⟨q',hq,h⟩;refine⟨q',?_,ih (j+1) q' zom h⟩;unfold vF6 at hq ⊢;simp only[rAN (show ¬ j=i by omega)];exact hq
     exact hcong m (i+1) _ zom hc
    .by_cases hji:j=i
     .subst hji
      simp only[rCI];exact⟨fun k f hm hno=>hemp f,fun k h1 h2=>by omega⟩
     .obtain⟨p1,p2⟩:=hp j oj zom hoj
      simp only[rAN hji];refine⟨p1,fun k h1 h2 hno=>?_⟩;by_cases hki:k=i
      .simp only[rAV hki]; exact hemp' _
      .simp only[rAN hki]
       exact p2 k zom h2 hno
   unfold wpOps at h;dsimp only at h
   split at h
   .rename_i hg
    exact run (by unfold wants; rw[hg]) h
   .rename_i j want hg
    split at h
    .rename_i d hd
     split at h
     .rename_i b hb
      by_cases hbw:b=want
      .exact run (by unfold wants; simp only[hg,hd,hb,hbw]; simp) (h.1 hbw)
      .have hbw':b=!want:=by cases b<;>cases want<;>simp_all
       exact pass (by unfold wants; simp only[hg,hd,hb,hbw']; cases want<;>rfl) (h.2 hbw')
     .rename_i hb
      exact pass (by unfold wants; simp only[hg,hd,hb]) h
     .exact h.elim
    .exact h.elim
variable {ro:Option Nat} {n:Nat}
theorem zN2{C:vA8}{X:Env->Prop}(hC:XOk P G C X)(hX:X E){ops:List Oper}(hf:∀ o∈ops,vBR N o=true){o:Oper}(ho:o∈ops){key:Nat}(H:HR E G w A κ s.h s.z)(ht:∀ i,i<N->RV w A κ (s.t i) (a.tmps.getD i undef))(hs:a.tmps.size=N)(hdf:∃ Ms,E.M=Ms++E.M0/\a.defers=Ms.map mkD++df)
 (hn:E.n0<=key) (hk:s.h key=none/\s.z key=false/\κ key=none) {fp:FP} {v:PV} {h':Hp} {z':Fz} (hd:opD P G C key o s fp v h' z') {next:Act->World->Prop} {Q:Exit->Act->World->Prop}
 (hnext:∀ E' w' A' κ' a',X E'->E'.re E=E'->HR E' G w' A' κ' h' z'->(∀ i,i<N->RV w' A' κ' ((put { s with h:=h',z:=z' } o.dst v).t i) (a'.tmps.getD i undef))->a'.tmps.size=N->(∃ Ms,E'.M=Ms++E'.M0/\a'.defers=Ms.map mkD++df)->(∀ r,r≠key->κ' r=κ r)->next a' w') :
 Oper.wpIn (Wd ro) n P o a w next Q:=by
 refine vV8 (s:=s) hC hX H hn hk.2.2 hk.2.1 hk.1 (zOJ H ht (hf o ho)) hd fun E' w' A' κ' v' ⟨hX',hre,hM⟩ h1 h2 h3 h4 h5 h6=>?_
 refine hnext E' w' A' κ' _ hX' hre h1 ?_ (zEK hs) (by rw[hM,uPC hre]; exact zG3 hdf) h4;have:=zMQ (dst:=o.dst) (v:=v) (v':=v') hs (zCX (hf o ho)) (zLQ h5 h6 h3 ht) h2;intro i hi;have:=this i hi;cases hdst:o.dst<;>simp only[hdst,put]at this ⊢<;>exact this
theorem vHA{C:vA8}{X:Env->Prop}{F:Env}(hC:XOk P G C X){ops:List Oper}(hf:∀ o∈ops,vBR N o=true){base:Nat}{fps:Nat->FP}{K:St->Prop}{Q:Exit->Act->World->Prop}(hn:F.n0<=base)
 (hQ:∀ s a w A κ,vEP X F G N df { s with nx:=base+ops.length } a w A κ->K s->Q .normal a w) :
 ∀ (fuel:Nat) (listed:Array Bool) (E:Env) (s:St) (a:Act) (w:World) (A:Nat->Prop) (κ:Ka),X E->E.re F=E->uOG P G C ops base fps K fuel listed s->HR E G w A κ s.h s.z->(∀ i,i<N->RV w A κ (s.t i) (a.tmps.getD i undef))->a.tmps.size=N->(∃ Ms,E.M=Ms++E.M0/\a.defers=Ms.map mkD++df) ->
   (∀ i,listed.getD i true=false->s.h (base+i)=none/\s.z (base+i)=false/\κ (base+i)=none)->vDC (base+ops.length) κ s.h s.z->listed.size=ops.length ->
   wpAnyIn (Wd ro) n P .any ops.toArray Q fuel listed a w:=by
 intro fuel
 have fin:∀ (E:Env) (s:St) (a:Act) (w:World) (A:Nat->Prop) (κ:Ka),X E->E.re F=E->HR E G w A κ s.h s.z->(∀ i,i<N->RV w A κ (s.t i) (a.tmps.getD i undef))->a.tmps.size=N->(∃ Ms,E.M=Ms++E.M0/\a.defers=Ms.map mkD++df)->vDC (base+ops.length) κ s.h s.z->K s->Q .normal a w :=
  fun E s a w A κ hX hF h1 h2 h3 h4 h5 hK=>hQ s a w A κ ⟨E,hX,hF,h1,h5,by rw[zM9 hF]; exact rBV hn (rF5 _ _),h2,h3,h4⟩ hK
 induction fuel with
 | zero=>intro listed E s a w A κ hX hF h h1 h2 h3 h4 h5 h6 _; exact⟨h.1,fin E s a w A κ hX hF h1 h2 h3 h4 h6 h.2⟩
 | succ fuel ih =>
   intro listed E s a w A κ hX hF h h1 h2 h3 h4 h5 h6 h7;refine⟨fun hr=>fin E s a w A κ hX hF h1 h2 h3 h4 h6 (h.1 hr),fun i hi=>?_⟩;obtain⟨s',⟨o,hoi,hstep⟩,hany⟩:=h.2 i hi;obtain⟨hun,o',ho',hall⟩:=mem_ready.1 hi;have hmem:=rAT hoi;have hlt:i<ops.length:=(rAP.1 hoi).1;have hun':listed.getD i true=false:=by simpa using hun
   have hset:∀ j,(listed.setIfInBounds i true).getD j true=false->j≠i/\listed.getD j true=false:=fun j hj=>by
    by_cases e:j=i
    .subst e
     exfalso;have hjs:j<listed.size:=by omega
     simp[hjs]at hj
    .rw[getD_set_ne true (fun x=>e x.symm)]at hj
     exact⟨e,hj⟩
   have hsz:(listed.setIfInBounds i true).size=ops.length:=by simp[h7]
   unfold wpOpIn;have hoa:ops.toArray[i]?=some o:=by simpa using hoi
   simp only[hoa];rcases hstep with⟨hw,v,h',z',hd,rfl⟩ | ⟨hw,rfl⟩
   .rw[rAV (by rw[zGH hf h3 h2 hw])]
    obtain⟨l1,l2,l3,_⟩:=zEQ hd;refine zN2 hC hX hf hmem h1 h2 h3 h4 (by rw[zM9 hF]; exact rBV hn (rF5 _ _)) (h5 i hun') hd fun E' w' A' κ' a' hX' hre g1 g2 g3 g4 g5=>?_
    have fr:∀ r,r≠base+i->s.h r=none/\s.z r=false/\κ r=none->h' r=none/\z' r=false/\κ' r=none:=fun r hr ⟨q1,q2,q3⟩=>by
     obtain⟨m1,m2⟩:=l2 r hr q1;refine⟨m1,?_,by rw[g5 r hr]; exact q3⟩;rw[l3];simp only[vCI,q2,rCO];exact contains_false.2 m2
    refine ih _ E' _ a' w' A' κ' hX' (zJ3 hF hre) hany (by simpa using g1) g2 g3 g4 (fun j hj=>?_) (fun r hr=>?_) hsz
    .obtain⟨e,hj'⟩:=hset j hj
     have:=fr (base+j) zom (h5 j hj')
     simpa using this
    .have:=fr r zom (h6 r hr)
     simpa using this
   .rw[rAN (by rw[zGH hf h3 h2 hw]; simp)]
    refine⟨fun _ _=>trivial,ih _ E _ _ w A κ hX hF hany (by simpa using h1) ?_ (zEK h3) (zG3 h4) (fun j hj=>?_) (by simpa using h6) hsz⟩
    .have:=zMQ (dst:=o.dst) (v:=.tup []) (v':=undef) h3 (zCX (hf o hmem)) h2 (.tup [] _ rfl (fun i d hd=>by simp at hd))
     intro j hj;have:=this j hj;cases hdst:o.dst<;>simp only[hdst,put]at this ⊢<;>exact this
    .obtain⟨e,hj'⟩:=hset j hj
     simpa using h5 j hj'
theorem vKK{ops:List Oper}(h:Region.lexB .any ops.toArray=true):Region.lexFrom .any ops.toArray ops.length 0 (Array.replicate ops.length false)=true:=by
 simp only[Region.lexB,rAQ]at h
 simpa using h.2
theorem zLV{C:vA8}{X:Env->Prop}{F:Env}(hC:XOk P G C X)(hm:P.follows .mixedOrders=true){id:Nat}{ops:Array Oper}{I:vB2}(hf:∀ o∈ops.toList,vBR N o=true)(hB:Region.lexB .any ops=true){K:St->Prop}{Q:Exit->Act->World->Prop}(hR:vEP X F G N df s a w A κ)
 (hQ:∀ s a w A κ,vEP X F G N df s a w A κ->K s->Q .normal a w) (h:wpOps P G C I true ops.toList 0 [] ops.toList K s):(Code.region id ops true).wpIn (Wd ro) n P Q a w:=by
 obtain⟨E,hX,hF,hR⟩:=hR;obtain⟨fps,hc,hp⟩:=zGA (base:=s.nx) ops.toList.length 0 [] ops.toList s zsm rfl rfl h;have hB':Region.lexB .any ops.toList.toArray=true:=by simpa using hB
 have hany:=vQ9 (P:=P) (G:=G) (C:=C) (base:=s.nx) (K:=fun s'=>K { s' with nx:=s.nx+ops.toList.length }) (fps:=fps) (fun i j oj hij hoj hno=>(hp j oj (rA9 _) hoj).2 i (rA9 _) hij hno)
  ops.toList.length 0 (Array.replicate ops.toList.length false) { s with nx:=s.nx } zsm (fun j o ho hj=>by rw[show(Array.replicate ops.toList.length false).getD j false=false by simp[Array.getD]]at hj; cases hj) (fun j hj=>by omega) (vKK hB') hc
 refine wpIn_region_any hm ?_;have hD:=hR.hr.drew
 have:=vHA (ro:=ro) (n:=n) (P:=P) (G:=G) (N:=N) (df:=df) (K:=fun s'=>K { s' with nx:=s.nx+ops.toList.length }) (F:=F) hC hf (by rw[<- zM9 hF]; exact hR.n0) (Q:=Q) (fun s' a' w' A' κ' h1 h2=>hQ _ _ _ _ _ h1 h2)
  ops.toList.length (Array.replicate ops.toList.length false) E { s with nx:=s.nx } a w.drew A κ hX hF hany hD (fun i hi=>(hR.tm i hi).mono (fun _ h=>h) (zGU w A) (fun _ _ h=>h)) hR.size hR.df
  (fun i hi=>hR.fresh (s.nx+i) (rF5 _ _)) (fun r hr=>hR.fresh r zom) zsm
 simpa using this
theorem zMN{C:vA8}{X:Env->Prop}{F:Env}(hC:XOk P G C X){D:Bool}{ops:List Oper}(hf:∀ o∈ops,vBR N o=true){K:St->Prop}{Q:Exit->Act->World->Prop}(hQ:∀ s a w A κ,vEP X F G N df s a w A κ->K s->Q .normal a w) :
 ∀ (l:List Oper) (i:Nat) (acc:List (Nat×FP)) (s:St) (a:Act) (w:World) (A:Nat->Prop) (κ:Ka),(∀ o∈l,o∈ops)->vEP X F G N df s a w A κ->wpOps P G C (FnH P G) D ops i acc l K s->wpListIn (Wd ro) n P ops.toArray Q l a w
 | [],i,acc,s,a,w,A,κ,_,hR,h=>hQ _ _ _ _ _ hR h
 | o :: rest,i,acc,s,a,w,A,κ,hl,hR,h=>by
   have hmem:=hl o zsm;obtain⟨E,hX,hF,hR⟩:=hR;have ih:=zMN hC (D:=D) hf hQ rest
   have run:wants ops o s.t=some true->vFC P G C (FnH P G) D o (fun fp s'=>(D=true->vCE ops o fp acc=true)/\wpOps P G C (FnH P G) D ops (i+1) ((i,fp)::acc) rest K s') s ->
    wpListIn (Wd ro) n P ops.toArray Q (o::rest) a w:=by
    intro hw hop;unfold wpListIn;rw[rAV (by rw[zGH hf hR.size hR.tm hw])];rcases zIF hop with⟨fp,v,h',z',hd,_,hrest⟩ | ⟨hD,g,args,ts,f,first,captured,ho,hev,hI⟩
    .obtain⟨l1,l2,l3,_⟩:=zEQ hd
     refine zN2 hC hX hf hmem hR.hr hR.tm hR.size hR.df hR.n0 (hR.fresh s.nx (rAO _)) hd fun E' w' A' κ' a' hX' hre g1 g2 g3 g4 g5=>?_
     refine ih (i+1) _ _ a' w' A' κ' (fun o ho=>hl o (by simp[ho])) ⟨E',hX',zJ3 hF hre,by simpa using g1,fun r hr=>?_,by rw[zFG,zM9 hre]; exact rC4 hR.n0,?_,g3,g4⟩ hrest
     .rw[zFG]at hr
      have hne:r≠s.nx:=by
       have:s.nx+1<=r:=hr;omega
      obtain⟨q1,q2,q3⟩:=hR.fresh r (by have:s.nx+1<=r:=hr; omega);obtain⟨m1,m2⟩:=l2 r hne q1;refine⟨by simpa using m1,?_,by rw[g5 r hne]; exact q3⟩;simp only[zNA];rw[l3];simp only[vCI,q2,rCO];exact contains_false.2 m2
     .have e:∀ j,(put { s with h:=h',z:=z',nx:=s.nx+1 } o.dst v).t j=(put { s with h:=h',z:=z' } o.dst v).t j:=fun j=>by cases o.dst<;>rfl
      intro j hj;rw[e]; exact g2 j hj
    .refine zH0 hR.hr hR.n0 hR.fresh (zOJ hR.hr hR.tm (hf o hmem)) ho hev hI fun w' A' κ' s' v' pv hK g1 g2 g3 g4 g5 g6 g7=>?_
     refine ih (i+1) _ _ _ w' A' κ' (fun o ho=>hl o (by simp[ho])) ⟨E,hX,hF,by simpa using g1,by simpa using g2,by rw[zFG]; exact rBV hR.n0 g3,?_,zEK hR.size,zG3 hR.df⟩ hK.2;have:=zMQ (dst:=o.dst) (v:=pv) (v':=v') hR.size (zCX (hf o hmem)) (zLQ g6 g7 g5 hR.tm) g4;intro j hj;have:=this j hj;cases hdst:o.dst<;>simp only[hdst,put]at this ⊢<;>exact this
   have pass:wants ops o s.t=some false->wpOps P G C (FnH P G) D ops (i+1) acc rest K (put { s with nx:=s.nx+1 } o.dst (.tup []))->wpListIn (Wd ro) n P ops.toArray Q (o::rest) a w:=by
    intro hw hrest;unfold wpListIn;rw[rAN (by rw[zGH hf hR.size hR.tm hw]; simp)];refine⟨fun _ _=>trivial,ih (i+1) _ _ _ w A κ (fun o ho=>hl o (by simp[ho])) ⟨E,hX,hF,by simpa using hR.hr,fun r hr=>?_,by rw[zFG]; exact rC4 hR.n0,?_,zEK hR.size,zG3 hR.df⟩ hrest⟩
    .rw[zFG]at hr
     have:=hR.fresh r (by have:s.nx+1<=r:=hr; omega)
     simpa using this
    .have:=zMQ (dst:=o.dst) (v:=.tup []) (v':=undef) hR.size (zCX (hf o hmem)) hR.tm (.tup [] _ rfl (fun i d hd=>by simp at hd))
     intro j hj;have:=this j hj;cases hdst:o.dst<;>simp only[hdst,put]at this ⊢<;>exact this
   unfold wpOps at h;dsimp only at h
   split at h
   .rename_i hg
    exact run (by unfold wants; rw[hg]) h
   .rename_i j want hg
    split at h
    .rename_i d hd
     split at h
     .rename_i b hb
      by_cases hbw:b=want
      .exact run (by unfold wants; simp only[hg,hd,hb,hbw]; simp) (h.1 hbw)
      .have hbw':b=!want:=by cases b<;>cases want<;>simp_all
       exact pass (by unfold wants; simp only[hg,hd,hb,hbw']; cases want<;>rfl) (h.2 hbw')
     .rename_i hb
      exact pass (by unfold wants; simp only[hg,hd,hb]) h
     .exact h.elim
    .exact h.elim
def LeS(G:Gl)(n0:Nat)(s s':St):Prop :=
 ∀ (E:Env) (N:Nat) (df:List Deferred) (a:Act) (w:World) (A:Nat->Prop) (κ:Ka),E.n0=n0->Rel E G N df s a w A κ->∃ A' κ',Rel E G N df s' a w A' κ'
theorem zIY{F:Fence}{n:Nat}{P:Program}{c:Code}{Q:Exit->Act->World->Prop}(R:Nat->Act->World->Prop)(round:∀ m a w,R (m+1) a w->c.wpIn F n P (Exit.then (fun a' w'=>R m a' w') Q) a w)
 (zero:∀ a w,¬ R 0 a w) (m:Nat) (a:Act) (w:World) (h:R m a w):(Code.loop c).wpIn F n P Q a w:=by
 intro b k cs hro hb hr
 have key:∀ m a w,R m a w->∃ e a' w',Q e a' w'/\ArrivesIn (Machine.fenced P F) P (lone (b.atR a (.code c::.inLoop c::k)) cs w) b k cs e a' w':=by
  intro m
  induction m with
  | zero=>intro a w h; exact absurd h (zero a w)
  | succ m ih =>
    intro a w h;obtain⟨e,a₁,w₁,hq,harr⟩:=round m a w h b (.inLoop c::k) cs hro hb hr;cases e with
    | normal =>
      obtain⟨e₂,a₂,w₂,hq₂,harr₂⟩:=ih a₁ w₁ hq;exact⟨e₂,a₂,w₂,hq₂,.of_steps (StepsIn.trans harr (.one (fenced_calm hb hr rfl) stepR_inLoop)) harr₂⟩
    | exit id=>exact⟨_,a₁,w₁,hq,.pass (x:=.inLoop c) rfl (fun _ _=>.inl zsm) harr⟩
    | goto l=>exact⟨_,a₁,w₁,hq,.pass (x:=.inLoop c) rfl (fun _ _=>.inl zsm) harr⟩
    | ret=>exact⟨_,a₁,w₁,hq,.pass (x:=.inLoop c) rfl (fun _ _=>.inl zsm) harr⟩
    | panic ch=>exact⟨_,a₁,w₁,hq,.pass (x:=.inLoop c) rfl (fun _ _=>.inl zsm) harr⟩
    | outgrown=>exact⟨_,a₁,w₁,hq,.pass (x:=.inLoop c) rfl (fun _ _=>.inl zsm) harr⟩
 obtain⟨e,a',w',hq,harr⟩:=key m a w h;exact⟨e,a',w',hq,.of_steps (.one (fenced_calm hb hr rfl) stepR_loop) harr⟩
end
open Go.RowKit
section
variable {P:Program} {G:Gl} {C:vA8}
theorem zJ4{z z2:Fz}{k k2:Nat}{op:Op}{t:Tm}{h:Hp}(hp:vCC op=true):vA4 P G z2 k2 op t h=vA4 P G z k op t h:=by
 cases op<;>first | rfl | (simp only[vCC,rCG]at hp)
theorem vVU{z:Fz}{key:Nat}{op:Op}{t:Tm}{h h':Hp}{v:PV}{rd wr:List Nat}(hp:vCC op=true)(he:vA4 P G z key op t h=some (v,h',rd,wr)):h'=h/\wr=[]:=by
 cases op<;>first | (simp only[vCC,rCG]at hp; done) | skip
 case move x =>
  unfold vA4 at he;cases he; exact⟨rfl,rfl⟩
 case load ty x =>
  unfold vA4 at he;dsimp only at he
  split at he
  .split at he
   .split at he
    .obtain⟨u,hu,hv⟩:=map_some he
     cases hv; exact⟨rfl,rfl⟩
    .cases he
   .cases he
  .obtain⟨u,hu,hv⟩:=map_some he
   cases hv; exact⟨rfl,rfl⟩
  .cases he
 case fieldAddr a b c =>
  unfold vA4 at he;dsimp only at he
  split at he
  .obtain⟨_,he⟩:=zAN he
   cases he; exact⟨rfl,rfl⟩
  .obtain⟨_,he⟩:=zAN he
   cases he; exact⟨rfl,rfl⟩
  .cases he
 case indexAddr a b c =>
  unfold vA4 at he;dsimp only at he
  split at he
  .obtain⟨_,he⟩:=zAN he
   split at he
   .obtain⟨_,he⟩:=zAN he
    cases he; exact⟨rfl,rfl⟩
   .cases he
  .obtain⟨_,he⟩:=zAN he
   split at he
   .obtain⟨_,he⟩:=zAN he
    cases he; exact⟨rfl,rfl⟩
   .cases he
  .obtain⟨_,he⟩:=zAN he
   cases he; exact⟨rfl,rfl⟩
  .obtain⟨_,he⟩:=zAN he
   cases he; exact⟨rfl,rfl⟩
  .cases he
 case unOp a b c =>
  unfold vA4 at he;dsimp only at he
  split at he
  .cases he; exact⟨rfl,rfl⟩
  .cases he; exact⟨rfl,rfl⟩
  .cases he
variable {ops:List Oper} {c:Nat}
abbrev RdO(ops:List Oper)(l:Array Bool):List Nat:=Region.ready .any ops.toArray l
def vFA(ops:List Oper)(i:Nat):Prop:=∃ o,ops[i]?=some o/\o.guard=none/\vCC o.op=true
structure Calm(ops:List Oper)(c:Nat):Prop where
 call:∃ oc,ops[c]?=some oc/\oc.guard=none/\vE4 oc.op=true
 pure:∀ j,j<ops.length->j≠c->vFA ops j
 up:∀ j,j<c->∃ j' o',j<j'/\j'<=c/\ops[j']?=some o'/\∃ e∈o'.after,Region.binds .any e=true/\e.on=j
 down:∀ j o,c<j->ops[j]?=some o->∃ e∈o.after,Region.binds .any e=true/\c<=e.on/\e.on<j
theorem zM2{o:Oper}{lo hi:Nat}(h:vE7 o lo hi=true):∃ e∈o.after,Region.binds .any e=true/\lo<=e.on/\e.on<hi:=by
 unfold vE7 at h;rw[rCY]at h;obtain⟨e,he,h⟩:=h;simp only[rAQ,Nat.ble_eq]at h;exact⟨e,by simpa using he,h.1,h.2.1,h.2.2⟩
theorem zK7:∀ (m j:Nat),j+m=ops.length->vFQ c j (ops.drop j)=true->∀ i o,j<=i->ops[i]?=some o ->
 o.guard=none/\(i<c->vCC o.op=true/\∃ j' o',i<j'/\j'<=c/\ops[j']?=some o'/\vE7 o' i (i+1)=true)/\(i=c->vE4 o.op=true)/\(c<i->vCC o.op=true/\vE7 o c i=true)
 | 0,j,hj,_,i,o,hi,ho=>by have:=(rAP.1 ho).1; omega
 | m + 1,j,hj,h,i,o,hi,ho=>by
   have hlt:j<ops.length:=by omega
   rw[rBT hlt]at h;unfold vFQ at h;rw[rAQ,rAQ]at h;obtain⟨h1,h2,h3⟩:=h;by_cases e:i=j
   .subst e
    have:ops[i]=o:=by have:=rAR hlt; rw[ho]at this; cases this; rfl
    rw[this]at h1 h2;refine⟨?_,?_,?_,?_⟩
    .cases hg:o.guard with
     | none=>rfl
     | some q=>rw[hg]at h1; cases h1
    .intro hic
     rw[show Nat.ble (i+1) c=true from Nat.ble_eq_true_of_le hic]at h2;dsimp only at h2;rw[rAQ,rCY]at h2;obtain⟨h2,o',ho',hb⟩:=h2;refine⟨h2,?_⟩;obtain⟨k,hk,rfl⟩:=rBD ho';rw[rBX,rCK]at hk;refine⟨i+1+k,_,zom,zom,?_,hb⟩;rw[List.getElem_take,List.getElem_drop,rAR zom]
    .intro hic
     subst hic
     have e1:Nat.ble (i+1) i=false:=by
      cases hb:Nat.ble (i+1) i with
      | false=>rfl
      | true=>have:=Nat.le_of_ble_eq_true hb; omega
     rw[e1,show Nat.beq i i=true from Nat.beq_refl i]at h2;exact h2
    .intro hic
     have e1:Nat.ble (i+1) c=false:=by
      cases hb:Nat.ble (i+1) c with
      | false=>rfl
      | true=>have:=Nat.le_of_ble_eq_true hb; omega
     have e2:Nat.beq i c=false:=by
      cases hb:Nat.beq i c with
      | false=>rfl
      | true=>have:=Nat.eq_of_beq_eq_true hb; omega
     rw[e1,e2]at h2;dsimp only at h2
     rwa [rAQ]at h2
   .exact zK7 m (j+1) zom h3 i o zom ho
theorem zO1:∀ (l:List Oper) (j c:Nat),vQJ j l=some c->∃ o,l[c - j]?=some o/\j<=c/\vE4 o.op=true
 | [],_,_,h=>by cases h
 | o::l,j,c,h=>by
   unfold vQJ at h
   split at h
   .rename_i ho; cases h; exact⟨o,zsm,rAO _,ho⟩
   .obtain⟨o',h1,h2,h3⟩:=zO1 l (j+1) c h
    refine⟨o',?_,zom,h3⟩;rw[show c - j=(c - (j+1))+1 by omega]; simpa using h1
theorem vZF(h:calm ops=true):∃ c,Calm ops c:=by
 unfold calm at h
 split at h
 .cases h
 .rename_i c hc
  obtain⟨oc,h1,_,h3⟩:=zO1 ops 0 c hc;rw[Nat.sub_zero]at h1;have sp:=zK7 (ops:=ops) (c:=c) ops.length 0 zom (by simpa using h);refine⟨c,⟨oc,h1,(sp c oc (rA9 _) h1).1,h3⟩,fun j hj hjc=>?_,fun j hj=>?_,fun j o hj ho=>?_⟩
  .have ho:=rAR hj
   obtain⟨g,a,_,b⟩:=sp j _ (rA9 _) ho;refine⟨_,ho,g,?_⟩;rcases rEJ hjc with q | q
   .exact(a q).1
   .exact(b q).1
  .have hl:=(rAP.1 h1).1
   have ho:=rAR (show j<ops.length by omega);obtain⟨_,a,_,_⟩:=sp j _ (rA9 _) ho;obtain⟨_,j',o',q1,q2,q3,q4⟩:=a hj;obtain⟨e,he,hb,q5,q6⟩:=zM2 q4;exact⟨j',o',q1,q2,q3,e,he,hb,zom⟩
  .obtain⟨_,_,_,b⟩:=sp j o (rA9 _) ho
   obtain⟨e,he,hb,q5,q6⟩:=zM2 (b hj).2;exact⟨e,he,hb,q5,q6⟩
def closed(ops:List Oper)(l:Array Bool):Prop:=∀ j o,ops[j]?=some o->l.getD j false=true->∀ e∈o.after,Region.binds .any e=true->l.getD e.on false=true
theorem zOY{l:Array Bool}{i:Nat}(h:closed ops l)(hi:i∈RdO ops l):closed ops (l.setIfInBounds i true):=fun j o ho hj e he hb=>by
 refine getD_set_true ?_;by_cases q:i=j
 .subst q
  obtain⟨_,o',ho',hall⟩:=mem_ready.1 hi
  have : o' = o := by have h1:ops[i]?=some o':=by simpa using ho'
                      rw[ho]at h1; cases h1; rfl
  subst this;exact hall e he hb
 .rw[getD_set_ne false q]at hj
  exact h j o ho hj e he hb
theorem vOH(hc:Calm ops c){l:Array Bool}(h:closed ops l)(hr:c∈RdO ops l):∀ j,j<c->l.getD j false=true:=by
 obtain⟨_,oc,hoc,hall⟩:=mem_ready.1 hr;have hoc':ops[c]?=some oc:=by simpa using hoc
 have key:∀ d j,c - j<=d->j<c->l.getD j false=true:=by
  intro d
  induction d with
  | zero=>intro j h1 h2; omega
  | succ d ih =>
    intro j h1 h2;obtain⟨j',o',q1,q2,q3,e,he,hb,rfl⟩:=hc.up j h2;by_cases q:j'=c
    .subst q
     rw[hoc']at q3; cases q3;exact hall e he hb
    .exact h j' o' q3 (ih j' zom zom) e he hb
 exact fun j hj=>key c j zom hj
theorem vK5(hc:Calm ops c){l:Array Bool}(h:closed ops l)(hun:l.getD c false=false):∀ d j,j<=d->c<j->j<ops.length->l.getD j false=false/\j∉RdO ops l:=by
 intro d
 induction d with
 | zero=>intro j h1 h2; omega
 | succ d ih =>
   intro j h1 h2 h3;have ho:=rAR h3;obtain⟨e,he,hb,q1,q2⟩:=hc.down j _ h2 ho
   have hno:l.getD e.on false≠true:=fun q=>by
    by_cases q3:e.on=c
    .rw[q3,hun]at q; cases q
    .have:=(ih e.on zom zom zom).1
     rw[this]at q; cases q
   refine⟨?_,fun hr=>?_⟩
   .cases hl:l.getD j false with
    | false=>rfl
    | true=>exact absurd (h j _ ho hl e he hb) hno
   .obtain⟨_,o',ho',hall⟩:=mem_ready.1 hr
    have:ops[j]?=some o':=by simpa using ho'
    rw[ho]at this; cases this;exact hno (hall e he hb)
def vOA(P:Program)(G:Gl)(ops:List Oper)(i:Nat)(s s':St):Prop :=
 ∃ o v rd,ops[i]?=some o/\o.guard=none/\vCC o.op=true/\vA4 P G s.z s.nx o.op s.t s.h=some (v,s.h,rd,[])/\s'=put { s with nx:=s.nx+1 } o.dst v
def vFZ(i:Nat)(a b:List Nat):Nat->FP:=fun k=>if k=i then⟨a,[],[]⟩ else⟨b,[],[]⟩
theorem vHK{C:vA8}{key:Nat}{o:Oper}{s:St}{rd:List Nat}{v:PV}(hp:vCC o.op=true)(he:vA4 P G s.z key o.op s.t s.h=some (v,s.h,rd,[])):opD P G C key o s ⟨rd,[],[]⟩ v s.h s.z:=by
 unfold opD
 split
 .rename_i g args ts ho; rw[ho]at hp; cases hp
 .exact⟨he,rfl,rfl⟩
theorem vRS{i j:Nat}{oi oj:Oper}(hi:ops[i]?=some oi)(hj:ops[j]?=some oj)(hne:j≠i)(ha:oi.apart ops.toArray oj=true){s s1 s2:St}(h1:vOA P G ops i s s1)(h2:vOA P G ops j s1 s2):∃ s1',vOA P G ops j s s1'/\vOA P G ops i s1' s2:=by
 obtain⟨o,v,rd,ho,hg,hp,he,rfl⟩:=h1;obtain⟨o',v',rd',ho',hg',hp',he',rfl⟩:=h2;rw[hi]at ho; cases ho;rw[hj]at ho'; cases ho'
 have d1:vF6 P G (fun _ _ _=>False) ops 0 (vFZ i rd rd') i { s with nx:=0 } (put { s with nx:=0 } oi.dst v):=by
  refine⟨oi,hi,rAW ⟨by unfold wants; rw[hg],v,s.h,s.z,?_,rfl⟩⟩;rw[show vFZ i rd rd' i=⟨rd,[],[]⟩ from rAV rfl];exact vHK hp (by rw[zJ4 hp (k:=s.nx) (z:=s.z)]; exact he)
 have eh:(put { s with nx:=s.nx+1 } oi.dst v).h=s.h:=by cases oi.dst<;>rfl
 have ez:(put { s with nx:=s.nx+1 } oi.dst v).z=s.z:=by cases oi.dst<;>rfl
 have et:(put { s with nx:=s.nx+1 } oi.dst v).t=(put { s with nx:=0 } oi.dst v).t:=by cases oi.dst<;>rfl
 have eh0:(put { s with nx:=0 } oi.dst v).h=s.h:=by cases oi.dst<;>rfl
 have ez0:(put { s with nx:=0 } oi.dst v).z=s.z:=by cases oi.dst<;>rfl
 have d2:vF6 P G (fun _ _ _=>False) ops 0 (vFZ i rd rd') j (put { s with nx:=0 } oi.dst v) (put (put { s with nx:=0 } oi.dst v) oj.dst v'):=by
  refine⟨oj,hj,rAW ⟨by unfold wants; rw[hg'],v',s.h,s.z,?_,by rw[show({ put { s with nx:=0 } oi.dst v with h:=s.h,z:=s.z }:St)=put { s with nx:=0 } oi.dst v from by cases oi.dst<;>rfl]⟩⟩;rw[show vFZ i rd rd' j=⟨rd',[],[]⟩ from rAN hne]
  have e1:vA4 P G (put { s with nx:=0 } oi.dst v).z (0+j) oj.op (put { s with nx:=0 } oi.dst v).t (put { s with nx:=0 } oi.dst v).h=some (v',(put { s with nx:=0 } oi.dst v).h,rd',[]):=by
   have he2:=he';rw[eh,et]at he2;rw[eh0];exact(zJ4 hp').trans he2
  have e2:=vHK (C:=fun _ _ _=>False) hp' e1
  rwa [eh0,ez0]at e2
 have hfp:FP.apart (vFZ i rd rd' i) (vFZ i rd rd' j)=true:=by
  rw[show vFZ i rd rd' i=⟨rd,[],[]⟩ from rAV rfl,show vFZ i rd rd' j=⟨rd',[],[]⟩ from rAN hne]; simp[FP.apart]
 obtain⟨q,g1,g2⟩:=zQQ hi hj ha hfp d1 d2;obtain⟨o1,e1,g1⟩:=g1;rw[hj]at e1; cases e1;obtain⟨o2,e2,g2⟩:=g2;rw[hi]at e2; cases e2;have w1:∀ t,wants ops oi t=some true:=fun t=>by unfold wants; rw[hg]
 have w2:∀ t,wants ops oj t=some true:=fun t=>by unfold wants; rw[hg']
 rcases g1 with⟨_,v1,h1',z1',g1,rfl⟩ | ⟨q,_⟩
 rotate_left
 .rw[w2]at q; cases q
 rcases g2 with⟨_,v2,h2',z2',g2,g3⟩ | ⟨q,_⟩
 rotate_left
 .rw[w1]at q; cases q
 have un:∀ {o:Oper} {key:Nat} {s:St} {fp:FP} {v:PV} {h':Hp} {z':Fz},vCC o.op=true->opD P G (fun _ _ _=>False) key o s fp v h' z'->vA4 P G s.z key o.op s.t s.h=some (v,s.h,fp.rd,[])/\h'=s.h/\z'=s.z:=by
  intro o key s fp v h' z' hp hd;unfold opD at hd
  split at hd
  .rename_i g args ts ho; rw[ho]at hp; cases hp
  .obtain⟨a,b,_⟩:=hd
   obtain⟨c1,c2⟩:=vVU hp a;rw[c1,c2]at a;exact⟨a,c1,b⟩
 obtain⟨a1,rfl,rfl⟩:=un hp' g1;obtain⟨a2,rfl,rfl⟩:=un hp g2;have b1:(put { s with nx:=s.nx+1 } oj.dst v1).t=(put { s with nx:=0 } oj.dst v1).t:=by cases oj.dst<;>rfl
 have b2:(put { s with nx:=s.nx+1 } oj.dst v1).h=s.h:=by cases oj.dst<;>rfl
 have b3:(put { s with nx:=0 } oj.dst v1).h=s.h:=by cases oj.dst<;>rfl
 refine⟨put { s with nx:=s.nx+1 } oj.dst v1,⟨oj,v1,(vFZ i rd rd' j).rd,hj,hg',hp',(zJ4 hp').trans a1,rfl⟩,⟨oi,v2,(vFZ i rd rd' i).rd,hi,hg,hp,?_,?_⟩⟩
 .have a3:vA4 P G (put { s with nx:=0 } oj.dst v1).z (0+i) oi.op (put { s with nx:=0 } oj.dst v1).t (put { s with nx:=0 } oj.dst v1).h=some (v2,(put { s with nx:=0 } oj.dst v1).h,(vFZ i rd rd' i).rd,[]):=a2
  rw[b3]at a3;rw[b1,b2];exact(zJ4 hp).trans a3
 .have g4:∀ {x y:St} ,x=y->∀ k,({ x with nx:=k }:St)={ y with nx:=k }:=fun e k=>by rw[e]
  have g5:=g4 g3 (s.nx+1+1);cases hdi:oi.dst<;>cases hdj:oj.dst<;>simp only[hdi,hdj,put]at g5 ⊢<;>exact g5
structure Ph(ops:List Oper)(Good done:Array Bool->Prop):Prop where
 step:∀ l i,Good l->¬ done l->i∈RdO ops l->Good (l.setIfInBounds i true)
 nd:∀ l i,Good l->i∈RdO ops l->vFA ops i->¬ done l
 last:∀ l i j,Good l->i∈RdO ops l->vFA ops i->done (l.setIfInBounds i true)->j∈RdO ops l->j=i
 pure:∀ l i,Good l->¬ done l->i∈RdO ops l->vFA ops i
def uOF(P:Program)(G:Gl)(ops:List Oper)(done:Array Bool->Prop)(R:St->Prop):Nat->Array Bool->St->Prop
 | 0,l,s=>done l/\R s
 | m+1,l,s=>¬ done l/\RdO ops l≠[]/\∀ i∈RdO ops l,∃ s',vOA P G ops i s s'/\uOF P G ops done R m (l.setIfInBounds i true) s'
theorem vTF{Good done:Array Bool->Prop}(ph:Ph ops Good done){R:St->Prop}{i:Nat}{oi:Oper}(hi:ops[i]?=some oi)(hpi:vFA ops i):∀ (m:Nat) (l:Array Bool) (s s1:St),Good l ->
 (∀ j oj,ops[j]?=some oj->j≠i->l.getD j true=false->(∀ e∈oj.after,Region.binds .any e=true->e.on≠i)->oi.apart ops.toArray oj=true) ->
 i∈RdO ops l->vOA P G ops i s s1->uOF P G ops done R m (l.setIfInBounds i true) s1->uOF P G ops done R (m+1) l s:=by
 intro m
 induction m with
 | zero =>
   intro l s s1 hG hfree hr hd H;refine⟨ph.nd l i hG hr hpi,(fun e=>by rw[e]at hr; cases hr),fun j hj=>?_⟩;have:=ph.last l i j hG hr hpi H.1 hj;subst this;exact⟨s1,hd,H⟩
 | succ m ih =>
   intro l s s1 hG hfree hr hd H;have hnd:=ph.nd l i hG hr hpi;refine⟨hnd,(fun e=>by rw[e]at hr; cases hr),fun j hj=>?_⟩;by_cases hji:j=i
   .subst hji; exact⟨s1,hd,H⟩
   .obtain⟨s2,d2,H2⟩:=H.2.2 j (ready_mono hj hji)
    obtain⟨hun,oj,hoj,hall⟩:=mem_ready.1 hj;have hoj':ops[j]?=some oj:=by simpa using hoj
    have hnot:∀ e∈oj.after,Region.binds .any e=true->e.on≠i:=by
     intro e he hb heq;have h1:=hall e he hb;have h0:=(mem_ready.1 hr).1;rw[heq]at h1;rcases rCZ i l.size with h' | h'
     .simp[h']at h0 h1; rw[h0]at h1; cases h1
     .simp[rCS h']at h1
    have q1:=hfree j oj hoj' hji (by simpa using hun) hnot;obtain⟨s1',g1,g2⟩:=vRS hi hoj' hji q1 hd d2;refine⟨s1',g1,ih (l.setIfInBounds j true) s1' s2 (ph.step l j hG hnd hj) (fun k ok hk hki hkun hno=>?_) (ready_mono hr (Ne.symm hji)) g2 ?_⟩
    .refine hfree k ok hk hki ?_ hno
     by_cases hjk:j=k
     .subst hjk; simpa using hun
     .rw[getD_set_ne true hjk]at hkun; exact hkun
    .rw[rGM _ _ hji]
     exact H2
def vZD(P:Program)(G:Gl)(ops:List Oper)(R:St->Prop):Nat->Nat->St->Prop
 | 0,_,s=>R s
 | m+1,i,s=>∃ s',vOA P G ops i s s'/\vZD P G ops R m (i+1) s'
theorem vIQ{Good done:Array Bool->Prop}(ph:Ph ops Good done){R:St->Prop}:∀ (m M k:Nat) (l:Array Bool) (s:St),Good l->m<=M->k+M=ops.length->(∀ j,j<k->l.getD j true=true) ->
 (∀ l',Good l'->(∀ j,j<k+m->l'.getD j true=true)->Region.lexFrom .any ops.toArray (M - m) (k+m) l'=true->done l')->Region.lexFrom .any ops.toArray M k l=true->vZD P G ops R m k s->uOF P G ops done R m l s
 | 0,M,k,l,s,hG,hm,hl,hdone,hend,hB,h=>⟨hend l hG hdone hB,h⟩
 | m + 1,M,k,l,s,hG,hm,hl,hdone,hend,hB,h=>by
   obtain⟨M,rfl⟩:∃ M',M=M'+1:=⟨M - 1,zom⟩;simp only[Region.lexFrom,rAQ]at hB;obtain⟨⟨hr,hf⟩,hB'⟩:=hB;obtain⟨s',hd,hc⟩:=h;have hk:k<ops.length:=by omega
   have h0:ops[k]?=some ops[k]:=rAR hk;have hfree:=Region.free_spec (ops:=ops.toArray) (oi:=ops[k]) (by simp[hk]) hf;have hr':k∈RdO ops l:=by simpa using hr
   have hpk:vFA ops k:=by
    obtain⟨o,v,rd,ho,hg,hp,_⟩:=hd;exact⟨o,ho,hg,hp⟩
   have hnd:=ph.nd l k hG hr' hpk
   have hone:∀ j,j<k+1->(l.setIfInBounds k true).getD j true=true:=fun j hj=>by
    rcases rCB (rCF hj) with h | h
    .have:=hdone j h
     rw[getD_set_ne true zom]; exact this
    .subst h
     by_cases hs:j<l.size
     .simp[hs]
     .simp[rCS (rDE hs)]
   refine vTF ph h0 hpk m l s s' hG (fun j oj hj hjk hun hno=>hfree j oj (by simpa using hj) hjk hun hno) hr' hd
    (vIQ ph m M (k+1) _ s' (ph.step l k hG hnd hr') zom zom hone (fun l' hl' h1 h2=>hend l' hl' (fun j hj=>h1 j zom) (by rw[show k+(m+1)=k+1+m by omega,show M+1 - (m+1)=M - m by omega]; exact h2)) hB' hc)
theorem vHE{C:vA8}{I:vB2}{K:St->Prop}:∀ (m i:Nat) (acc:List (Nat×FP)) (s:St),i+m<=ops.length->(∀ j,i<=j->j<i+m->vFA ops j)->wpOps P G C I false ops i acc (ops.drop i) K s ->
 vZD P G ops (fun s1=>∃ acc',wpOps P G C I false ops (i+m) acc' (ops.drop (i+m)) K s1) m i s
 | 0,i,acc,s,_,_,h=>⟨acc,h⟩
 | m + 1,i,acc,s,hl,hp,h=>by
   have hlt:i<ops.length:=by omega
   obtain⟨o,ho,hg,hr⟩:=hp i (rAO _) zom;have he:ops[i]=o:=by have:=rAR hlt; rw[ho]at this; cases this; rfl
   rw[rBT hlt,he]at h;unfold wpOps at h;dsimp only at h;rw[hg]at h;dsimp only at h;unfold vFC at h
   split at h
   .rename_i g args ts e; rw[e]at hr; cases hr
   .split at h
    .rename_i v h' rd wr hev
     obtain⟨rfl,rfl⟩:=vVU hr hev;have:=vHE m (i+1) _ _ zom (fun j h1 h2=>hp j zom zom) h.2;rw[show i+1+m=i+(m+1) by omega]at this;exact⟨_,⟨o,v,rd,ho,hg,hr,hev,rfl⟩,this⟩
    .exact h.elim
variable {N:Nat} {df:List Deferred} {ro:Option Nat} {n:Nat}
theorem vGI{X:Env->Prop}{F:Env}(hC:XOk P G C X)(hf:∀ o∈ops,vBR N o=true){Good done:Array Bool->Prop}(ph:Ph ops Good done){R:St->Prop}{Q:Exit->Act->World->Prop}{M:Nat}
 (hfin:∀ l s a w A κ,Good l->done l->vEP X F G N df s a w A κ->R s->wpAnyIn (Wd ro) n P .any ops.toArray Q M l a w) :
 ∀ (m:Nat) (l:Array Bool) (s:St) (a:Act) (w:World) (A:Nat->Prop) (κ:Ka),Good l->vEP X F G N df s a w A κ->uOF P G ops done R m l s->wpAnyIn (Wd ro) n P .any ops.toArray Q (m+M) l a w:=by
 intro m
 induction m with
 | zero=>intro l s a w A κ hG hR h; rw[rC8]; exact hfin l s a w A κ hG h.1 hR h.2
 | succ m ih =>
   intro l s a w A κ hG hR h;rw[show m+1+M=m+M+1 by omega];refine⟨fun hr=>absurd hr h.2.1,fun i hi=>?_⟩;obtain⟨s',⟨o,v,rd,ho,hg,hp,he,rfl⟩,hany⟩:=h.2.2 i hi;obtain⟨E,hX,hF,hR⟩:=hR;have hmem:=rAT ho;have hoa:ops.toArray[i]?=some o:=by simpa using ho
   unfold wpOpIn;simp only[hoa];have hd:=vHK (C:=C) hp he;rw[rAV (by rw[zGH hf hR.size hR.tm (show wants ops o s.t=some true by unfold wants; rw[hg])])];obtain⟨l1,l2,l3,_⟩:=zEQ hd;refine zN2 hC hX hf hmem hR.hr hR.tm hR.size hR.df hR.n0 (hR.fresh s.nx (rAO _)) hd fun E' w' A' κ' a' hX' hre g1 g2 g3 g4 g5=>?_
   refine ih _ _ a' w' A' κ' (ph.step l i hG h.1 hi) ⟨E',hX',zJ3 hF hre,by simpa using g1,fun r hr=>?_,by rw[zFG,zM9 hre]; exact rC4 hR.n0,?_,g3,g4⟩ hany
   .rw[zFG]at hr
    have hne:r≠s.nx:=by
     have:s.nx+1<=r:=hr;omega
    obtain⟨q1,q2,q3⟩:=hR.fresh r (by have:s.nx+1<=r:=hr; omega);obtain⟨m1,m2⟩:=l2 r hne q1;refine⟨by simpa using m1,?_,by rw[g5 r hne]; exact q3⟩;simp only[zNA];rw[l3];simp only[vCI,q2,rCO];exact contains_false.2 m2
   .have e:∀ j,(put { s with h:=s.h,z:=s.z,nx:=s.nx+1 } o.dst v).t j=(put { s with h:=s.h,z:=s.z } o.dst v).t j:=fun j=>by cases o.dst<;>rfl
    intro j hj;rw[e]; exact g2 j hj
theorem uFV(hc:Calm ops c):Ph ops (fun l=>closed ops l/\l.size=ops.length/\l.getD c false=false) (fun l=>c∈RdO ops l):=by
 have hcl:c<ops.length:=by obtain⟨oc,h,_⟩:=hc.call; exact(rAP.1 h).1
 have noc:¬ vFA ops c:=fun⟨o,ho,_,hp⟩=>by
  obtain⟨oc,h1,_,h3⟩:=hc.call;rw[h1]at ho; cases ho;cases hop:o.op<;>rw[hop]at hp h3<;>first | (simp[vCC]at hp; done) | (simp[vE4]at h3; done)
 have lt_of:∀ l i,closed ops l->l.getD c false=false->i∈RdO ops l->i≠c->i<c:=fun l i h1 h2 hi hne=>by
  rcases rEJ hne with h | h
  .exact h
  .obtain⟨_,o,ho,_⟩:=mem_ready.1 hi
   have:ops[i]?=some o:=by simpa using ho
   exact absurd hi (vK5 hc h1 h2 i i (rAO _) h (rAP.1 this).1).2
 have lt_len:∀ l i,i∈RdO ops l->i<ops.length:=fun l i hi=>by
  obtain⟨_,o,ho,_⟩:=mem_ready.1 hi;have:ops[i]?=some o:=by simpa using ho
  exact(rAP.1 this).1
 have sete:∀ (l:Array Bool) i,i≠c->(l.setIfInBounds i true).getD c false=l.getD c false:=fun l i h=>getD_set_ne false h
 refine⟨fun l i ⟨h1,h2,h3⟩ hnd hi=>?_,fun l i ⟨h1,h2,h3⟩ hi hp hd=>?_,fun l i j ⟨h1,h2,h3⟩ hi hp hd hj=>?_,fun l i ⟨h1,h2,h3⟩ hnd hi=>?_⟩
 .exact⟨zOY h1 hi,by simp[h2],by rw[sete l i (fun e=>hnd (e ▸ hi))]; exact h3⟩
 .have hne:i≠c:=fun e=>noc (e ▸ hp)
  have:=vOH hc h1 hd i (lt_of l i h1 h3 hi hne);have h0:=(mem_ready.1 hi).1;have hs:i<l.size:=by rw[h2]; exact lt_len l i hi
  simp[hs]at this h0; rw[h0]at this; cases this
 .have hne:i≠c:=fun e=>noc (e ▸ hp)
  have hic:=lt_of l i h1 h3 hi hne;refine rGL fun hji=>?_
  have hjc:j≠c:=fun e=>by
   subst e;have:=vOH hc h1 hj i hic;have h0:=(mem_ready.1 hi).1;have hs:i<l.size:=by rw[h2]; exact lt_len l i hi
   simp[hs]at this h0; rw[h0]at this; cases this
  have:=vOH hc (zOY h1 hi) hd j (lt_of l j h1 h3 hj hjc);rw[getD_set_ne false (fun e=>hji e.symm)]at this;have h0:=(mem_ready.1 hj).1;have hs:j<l.size:=by rw[h2]; exact lt_len l j hj
  simp[hs]at this h0; rw[h0]at this; cases this
 .have hne:i≠c:=fun e=>hnd (e ▸ hi)
  exact hc.pure i (lt_len l i hi) hne
theorem vVZ(hc:Calm ops c):Ph ops (fun l=>l.size=ops.length/\∀ j,j<=c->l.getD j true=true) (fun l=>RdO ops l=[]):=by
 have lt_len:∀ l i,i∈RdO ops l->i<ops.length:=fun l i hi=>by
  obtain⟨_,o,ho,_⟩:=mem_ready.1 hi;have:ops[i]?=some o:=by simpa using ho
  exact(rAP.1 this).1
 refine⟨fun l i ⟨h1,h2⟩ hnd hi=>⟨by simp[h1],fun j hj=>?_⟩,fun l i _ hi _ hd=>?_,fun l i j ⟨h1,h2⟩ hi hp hd hj=>?_,fun l i ⟨h1,h2⟩ hnd hi=>?_⟩
 .by_cases e:i=j
  .subst e
   have hs:i<l.size:=by rw[h1]; exact lt_len l i hi
   simp[hs]
  .rw[getD_set_ne true e]; exact h2 j hj
 .rw[hd]at hi; cases hi
 .refine rGL fun hji=>?_
  have:=ready_mono hj hji;rw[show Region.ready .any ops.toArray (l.setIfInBounds i true)=[] from hd]at this;cases this
 .refine hc.pure i (lt_len l i hi) fun e=>?_
  subst e;have:=h2 i (rAO _);rw[(mem_ready.1 hi).1]at this; cases this
theorem vPW(hB:Region.lexFrom .any ops.toArray ops.length 0 (Array.replicate ops.length false)=true):∀ t,t<=ops.length->∃ l:Array Bool,l.size=ops.length/\(∀ j,j<ops.length->l.getD j true=decide (j<t))/\Region.lexFrom .any ops.toArray (ops.length - t) t l=true
 | 0,_=>⟨_,zsm,fun j hj=>by simp[hj],hB⟩
 | t+1,h=>by
   obtain⟨l,h1,h2,h3⟩:=vPW hB t zom;obtain⟨M,hM⟩:∃ M,ops.length - t=M+1:=⟨ops.length - t - 1,zom⟩;rw[hM]at h3;simp only[Region.lexFrom,rAQ]at h3;refine⟨l.setIfInBounds t true,by simp[h1],fun j hj=>?_,by rw[show ops.length - (t+1)=M by omega]; exact h3.2⟩;by_cases e:t=j
   .subst e
    have hs:t<l.size:=by omega
    simp[hs]
   .rw[getD_set_ne true e,h2 j hj]
    exact rCW.2 zom
theorem uOD{l l':Array Bool}{k:Nat}(h1:l.size=k)(h2:l'.size=k)(h:∀ j,j<k->l.getD j true=l'.getD j true):l=l':=by
 refine Array.ext zom fun i hi1 hi2=>?_
 have:=h i zom
 simpa [hi1,hi2]using this
theorem zOP{l:Array Bool}{k j:Nat}(h:l.size=k)(hj:j<k):l.getD j true=l.getD j false:=by
 have hs:j<l.size:=by omega
 simp[hs]
end
section
variable {P:Program} {G:Gl} {C:vA8} {N:Nat} {df:List Deferred} {ro:Option Nat} {n:Nat} {s:St} {a:Act} {w:World} {A:Nat->Prop} {κ:Ka}
theorem zLW{X:Env->Prop}{F:Env}(hC:XOk P G C X)(hm:P.follows .mixedOrders=true){id:Nat}{ops:List Oper}(hf:∀ o∈ops,vBR N o=true)(hB:Region.lexB .any ops.toArray=true)(hcalm:calm ops=true){K:St->Prop}{Q:Exit->Act->World->Prop}(hR:vEP X F G N df s a w A κ)
 (hQ:∀ s a w A κ,vEP X F G N df s a w A κ->K s->Q .normal a w) (h:wpOps P G C (FnH P G) false ops 0 [] ops K s):(Code.region id ops.toArray true).wpIn (Wd ro) n P Q a w:=by
 obtain⟨c,hc⟩:=vZF hcalm;obtain⟨oc,hoc,hgc,hvc⟩:=hc.call;have hcl:c<ops.length:=(rAP.1 hoc).1;have hoc2:ops[c]=oc:=by have:=rAR hcl; rw[hoc]at this; cases this; rfl
 have hlex:=vKK hB;refine wpIn_region_any hm ?_
 have hRd:vEP X F G N df s a w.drew A κ:=by
  obtain⟨E,hX,hF,hR⟩:=hR;exact⟨E,hX,hF,hR.hr.drew,hR.fresh,hR.n0,fun i hi=>(hR.tm i hi).mono (fun _ h=>h) (zGU w A) (fun _ _ h=>h),hR.size,hR.df⟩
 have post:∀ (l:Array Bool),l.size=ops.length->(∀ j,j<ops.length->l.getD j true=decide (j<c+1))->∀ acc s' a' w' A' κ',vEP X F G N df s' a' w' A' κ'->wpOps P G C (FnH P G) false ops (c+1) acc (ops.drop (c+1)) K s'->wpAnyIn (Wd ro) n P .any ops.toArray Q (ops.length - (c+1)) l a' w':=by
  intro l hl1 hl2 acc s' a' w' A' κ' hR' hw;obtain⟨l0,q1,q2,q3⟩:=vPW hlex (c+1) zom;have e:l=l0:=uOD hl1 q1 fun j hj=>by rw[hl2 j hj,q2 j hj]
  subst e;have run:=vHE (P:=P) (G:=G) (C:=C) (I:=FnH P G) (K:=K) (ops:=ops) (ops.length - (c+1)) (c+1) acc s' zom (fun j h1 h2=>hc.pure j zom zom) hw;have hG:l.size=ops.length/\∀ j,j<=c->l.getD j true=true:=⟨hl1,fun j hj=>by rw[hl2 j zom]; exact rB4 zom⟩
  have hany:=vIQ (vVZ hc) (ops.length - (c+1)) (ops.length - (c+1)) (c+1) l s' hG (rAO _) zom (fun j hj=>by rw[hl2 j zom]; exact rB4 hj)
   (fun l' hl' h1 h2=>by rw[Nat.sub_self]at h2; simpa [Region.lexFrom]using h2) q3 run
  refine vGI (M:=0) hC hf (vVZ hc) (fun l s a w A κ hG hd hR hK=>?_) _ _ _ _ _ _ _ hG hR' hany;obtain⟨acc',hK⟩:=hK;rw[rDW zom]at hK;exact⟨hd,hQ s a w A κ hR hK⟩
 have run1:=vHE (P:=P) (G:=G) (C:=C) (I:=FnH P G) (K:=K) (ops:=ops) c 0 [] s zom (fun j _ hj=>hc.pure j zom zom) (by simpa using h)
 have hG0:closed ops (Array.replicate ops.length false)/\(Array.replicate ops.length false).size=ops.length/\(Array.replicate ops.length false).getD c false=false:=by
  have hz:∀ j,(Array.replicate ops.length false).getD j false=false:=fun j=>by
   by_cases hj:j<ops.length<;>simp[hj]
  exact⟨(fun j o _ hj=>by rw[hz]at hj; cases hj),zsm,hz c⟩
 have any1:=vIQ (uFV hc) c ops.length 0 (Array.replicate ops.length false) s hG0 zom zom (fun j hj=>by omega)
  (fun l' hl' h1 h2=>by
    obtain⟨M,hM⟩:∃ M,ops.length - c=M+1:=⟨ops.length - c - 1,zom⟩;rw[hM,rC8]at h2;simp only[Region.lexFrom,rAQ]at h2
    simpa using h2.1.1) hlex run1
 have key:=vGI (n:=n) (ro:=ro) (Q:=Q) (M:=ops.length - c) hC hf (uFV hc) (fun l s1 a1 w1 A1 κ1 ⟨g1,g2,g3⟩ hrd hR1 ⟨acc,hw⟩=>by
  rw[show ops.length - c=ops.length - (c+1)+1 by omega];refine⟨(fun hr=>by rw[show RdO ops l=[] from hr]at hrd; cases hrd),fun i hi=>?_⟩;have hup:=vOH hc g1 hrd;have hdn:=vK5 hc g1 g3
  have hic:i=c:=by
   obtain⟨hun,o,ho,_⟩:=mem_ready.1 hi;have ho':ops[i]?=some o:=by simpa using ho
   have hil:=(rAP.1 ho').1;rcases Nat.lt_trichotomy i c with q | q | q
   .have:=hup i q
    rw[<- zOP g2 hil,hun]at this; cases this
   .exact q
   .exact absurd hi (hdn i i (rAO _) q hil).2
  subst hic;obtain⟨E,hX,hF,hR1⟩:=hR1;have hmem:=rAT hoc;have hoa:ops.toArray[i]?=some oc:=by simpa using hoc
  have hl1:(l.setIfInBounds i true).size=ops.length:=by simp[g2]
  have hl2:∀ j,j<ops.length->(l.setIfInBounds i true).getD j true=decide (j<i+1):=fun j hj=>by
   rcases Nat.lt_trichotomy j i with q | q | q
   .rw[getD_set_ne true zom,zOP g2 hj,hup j q]; exact(rB4 zom).symm
   .subst q
    have hs:j<l.size:=by omega
    simp[hs]
   .rw[getD_set_ne true zom,zOP g2 hj,(hdn j j (rAO _) q hj).1]; exact(rBC zom).symm
  rw[rC8,rBT hcl,hoc2]at hw;unfold wpOps at hw;dsimp only at hw;rw[hgc]at hw;dsimp only at hw;unfold wpOpIn;simp only[hoa];rw[rAV (by rw[zGH hf hR1.size hR1.tm (show wants ops oc s1.t=some true by unfold wants; rw[hgc])])];rcases zIF hw with⟨fp,v,h',z',hd,_,hrest⟩ | ⟨hD,g,args,ts,f,first,captured,ho,hev,hI⟩
  .obtain⟨l1,l2,l3,_⟩:=zEQ hd
   refine zN2 hC hX hf hmem hR1.hr hR1.tm hR1.size hR1.df hR1.n0 (hR1.fresh s1.nx (rAO _)) hd fun E' w' A' κ' a' hX' hre g1 g2 g3 g4 g5=>?_
   refine post _ hl1 hl2 _ _ a' w' A' κ' ⟨E',hX',zJ3 hF hre,by simpa using g1,fun r hr=>?_,by rw[zFG,zM9 hre]; exact rC4 hR1.n0,?_,g3,g4⟩ hrest
   .rw[zFG]at hr
    have hne:r≠s1.nx:=by
     have:s1.nx+1<=r:=hr;omega
    obtain⟨q1,q2,q3⟩:=hR1.fresh r (by have:s1.nx+1<=r:=hr; omega);obtain⟨m1,m2⟩:=l2 r hne q1;refine⟨by simpa using m1,?_,by rw[g5 r hne]; exact q3⟩;simp only[zNA];rw[l3];simp only[vCI,q2,rCO];exact contains_false.2 m2
   .have e:∀ j,(put { s1 with h:=h',z:=z',nx:=s1.nx+1 } oc.dst v).t j=(put { s1 with h:=h',z:=z' } oc.dst v).t j:=fun j=>by cases oc.dst<;>rfl
    intro j hj;rw[e]; exact g2 j hj
  .refine zH0 hR1.hr hR1.n0 hR1.fresh (zOJ hR1.hr hR1.tm (hf oc hmem)) ho hev hI fun w' A' κ' s' v' pv hK g1 g2 g3 g4 g5 g6 g7=>?_
   refine post _ hl1 hl2 _ _ _ w' A' κ' ⟨E,hX,hF,by simpa using g1,by simpa using g2,by rw[zFG]; exact rBV hR1.n0 g3,?_,zEK hR1.size,zG3 hR1.df⟩ hK.2;have:=zMQ (dst:=oc.dst) (v:=pv) (v':=v') hR1.size (zCX (hf oc hmem)) (zLQ g6 g7 g5 hR1.tm) g4;intro j hj;have:=this j hj
   cases hdst:oc.dst<;>simp only[hdst,put]at this ⊢<;>exact this) c (Array.replicate ops.length false) s a w.drew A κ hG0 hRd any1
 rw[show c+(ops.length - c)=ops.length by omega]at key
 simpa using key
end
open Go.RowKit
section
variable {P:Program} {E:Env} {G:Gl} {w:World} {A:Nat->Prop} {κ:Ka} {h:Hp} {z:Fz}
structure Cov(S:Nat->Prop)(E:Env)(A:Nat->Prop)(κ:Ka)(h:Hp):Prop where
 base:∀ b,b<E.B->S b
 a:∀ b,A b->S b
 s:∀ b,E.S b->S b
 m:∀ D,D∈E.M->S D
 k:∀ b,E.K b->S b
 o:∀ r b m sz cap,h r=some b->κ r=some (m,sz,cap)->cap≠0->S m
theorem HR.same(H:HR E G w A κ h z){w':World}{S:Nat->Prop}(C:Cov S E A κ h)(hb:Below 0 w w')(hS:∀ b,S b->w'.heap[b]?=w.heap[b]?):HR E G w' A κ h z:=by
 have hcell:∀ b o,A b->w'.cell? ⟨b,o,none⟩=w.cell? ⟨b,o,none⟩:=fun b o hA=>cell?_of_heap (hS b (C.a b hA)) o
 have mono:∀ {d v},RV w A κ d v->RV w' A κ d v:=fun hv=>hv.mono (fun _ h=>h) hcell (fun _ _ h=>h)
 refine⟨⟨hb.os.trans H.bel.os,hb.tape.trans H.bel.tape,hb.output.trans H.bel.output,rBV H.bel.size hb.size,fun k hk=>(hS k (C.base k hk)).trans (H.bel.block k hk)⟩,rBV H.hB hb.size,fun b hb'=>rA4 (H.alt b hb') hb.size,H.a0,H.a1,fun b o hb'=>(hcell b o (H.a0 b hb')).trans (H.acell b o hb'),H.k0,fun g e hg=>mono (H.glob g e hg),fun r m sz cap hr=>?_,⟨H.kp.base.trans hb,fun b hb'=>⟨rA4 (H.kp.keep b hb').1 hb.size,(hS b (C.s b hb')).trans (H.kp.keep b hb').2⟩,H.kp.wr,H.kp.own,fun D hD=>⟨(H.kp.mks D hD).1,(H.kp.mks D hD).2.1,(hS D (C.m D hD)).trans (H.kp.mks D hD).2.2⟩,H.kp.nd,H.kp.kb.trans hb,fun b hb'=>⟨rA4 (H.kp.kk b hb').1 hb.size,(hS b (C.k b hb')).trans (H.kp.kk b hb').2.1,(H.kp.kk b hb').2.2⟩,H.kp.zk,H.kp.mk0,H.kp.gk⟩,fun r b hr hκ=>?_,H.excl⟩
 .rcases H.klt r m sz cap hr with h | h
  .exact rAW h
  .exact rAZ (rA4 h hb.size)
 .obtain⟨m,cap,h1,h2,h3,h4⟩:=H.blk r b hr hκ
  refine⟨m,cap,h1,h2,h3,?_⟩;by_cases hc:cap=0
  .exact rAW hc
  rcases h4 with h4 | ⟨c,ty,g1,g2,g3,g4,g5,g6,g7⟩
  .exact rAW h4
  .exact rAZ ⟨c,ty,g1,(hS m (C.o r b m _ cap hr h1 hc)).trans g2,g3,g4,fun i e he=>(g5 i e he).mono (fun _ h=>h) hcell (fun _ _ h=>h),g6,g7⟩
theorem HR.more(H:HR E G w A κ h z){X:Nat->Prop}(x1:∀ b,X b->b<w.heap.size)(x2:∀ b,X b->A b\/E.B<=b)(x3:∀ b,X b->¬ E.Wr b)(x4:∀ D,D∈E.M->¬ X D)(x5:∀ b,X b->¬ E.Z b)
 (x6:∀ r b m sz cap,h r=some b->κ r=some (m,sz,cap)->cap≠0->z r=false->¬ X m):HR E G w (fun b=>A b\/X b) κ h z:=by
 have mono:∀ {d v},RV w A κ d v->RV w (fun b=>A b\/X b) κ d v:=fun hv=>hv.mono (fun _ h=>rAW h) (fun _ _ _=>rfl) (fun _ _ h=>h)
 refine⟨H.bel,H.hB,fun b hb=>hb.elim (H.alt b) (x1 b),fun b hb=>rAW (H.a0 b hb),fun b hb=>?_,H.acell,H.k0,fun g e hg=>mono (H.glob g e hg),H.klt,
  ⟨H.kp.base,H.kp.keep,fun b hb=>⟨(H.kp.wr b hb).1,fun q=>q.elim (H.kp.wr b hb).2 (fun q=>x3 b q hb)⟩,H.kp.own,fun D hD=>⟨(H.kp.mks D hD).1,⟨(H.kp.mks D hD).2.1.1,fun q=>q.elim (H.kp.mks D hD).2.1.2 (x4 D hD)⟩,(H.kp.mks D hD).2.2⟩,H.kp.nd,
    H.kp.kb,H.kp.kk,fun b hb=>⟨(H.kp.zk b hb).1,fun q=>q.elim (H.kp.zk b hb).2.1 (fun q=>x5 b q hb),(H.kp.zk b hb).2.2⟩,H.kp.mk0,H.kp.gk⟩,fun r b hr hκ=>?_,H.excl⟩
 .rcases hb with hb | hb
  .exact H.a1 b hb
  .rcases x2 b hb with q | q
   .exact H.a1 b q
   .exact rAZ q
 .obtain⟨m,cap,h1,h2,h3,h4⟩:=H.blk r b hr hκ
  refine⟨m,cap,h1,h2,h3,?_⟩;by_cases hc:cap=0
  .exact rAW hc
  rcases h4 with h4 | ⟨c,ty,g1,g2,g3,g4,g5,g6,g7⟩
  .exact rAW h4
  .exact rAZ ⟨c,ty,g1,g2,g3,g4,fun i e he=>(g5 i e he).mono (fun _ h=>rAW h) (fun _ _ _=>rfl) (fun _ _ h=>h),fun hz q=>q.elim (g6 hz) (x6 r b m _ cap hr h1 hc hz),fun hz=>rAW (g7 hz)⟩
theorem HR.anchor(H:HR E G w A κ h z)(F:Env)(f1:∀ b,F.A0 b->A b)(f2:∀ b,A b->F.A0 b\/E.B<=b)(f3:∀ b o,F.A0 b->w.cell? ⟨b,o,none⟩=F.w1.cell? ⟨b,o,none⟩)(f4:∀ r,r<F.n0->κ r=F.κ0 r)(f5:E.gh=true->0<F.n0)
 (f6:F.B=E.B) (f7:Below 0 F.kw w) (f8:∀ b,F.K b->b<w.heap.size/\w.heap[b]?=F.kw.heap[b]?/\¬ E.Wr b) (f9:∀ b,F.Z b->F.K b/\¬ A b/\¬ E.S b) (f10:∀ D,D∈E.M->D∈F.M0\/¬ F.K D)
 (f11:∀ r b m sz cap,h r=some b->κ r=some (m,sz,cap)->cap≠0->z r=false->¬ F.K m) (f12:F.gh=E.gh):HR (E.re F) G w A κ h z:=by
 have e:(E.re F).B=E.B:=f6;exact⟨e ▸ H.bel,by rw[e]; exact H.hB,H.alt,f1,by rw[e]; exact f2,f3,f4,H.glob,H.klt,⟨H.kp.base,H.kp.keep,H.kp.wr,fun r b m sz cap h1 h2 h3 h4=>⟨(H.kp.own r b m sz cap h1 h2 h3 h4).1,f11 r b m sz cap h1 h2 h3 h4⟩,by rw[e]; exact H.kp.mks,H.kp.nd,f7,f8,f9,f10,fun hg=>⟨f5 (f12 ▸ hg),(H.kp.gk (f12 ▸ hg)).2⟩⟩,by rw[e]; exact H.blk,H.excl⟩
theorem HR.putL(H:HR E G w A κ h z){l:Nat}{r:Loop}(o':Obj)(hl:w.heap[l]?=some (.loop r))(hB:E.B<=l)(hS:¬ E.S l)(hA:¬ A l)(hK:¬ E.K l):HR E G (w.putObj l o') A κ h z:=by
 have oth:∀ b,b≠l->(w.putObj l o').heap[b]?=w.heap[b]?:=fun b hb=>World.putObj_heap_other hb
 have hcell:∀ b o,A b->(w.putObj l o').cell? ⟨b,o,none⟩=w.cell? ⟨b,o,none⟩:=fun b o hb=>cell?_of_heap (oth b (fun e=>by subst e; exact hA hb)) o
 have mono:∀ {d v},RV w A κ d v->RV (w.putObj l o') A κ d v:=fun hv=>hv.mono (fun _ h=>h) hcell (fun _ _ h=>h)
 refine⟨H.bel.trans ⟨rfl,rfl,rfl,zsm,fun k hk=>oth k zom⟩,by simp[H.hB],fun b hb=>by simp; exact H.alt b hb,H.a0,H.a1,fun b o hb=>(hcell b o (H.a0 b hb)).trans (H.acell b o hb),H.k0,fun g e hg=>mono (H.glob g e hg),fun r m sz cap hr=>by simpa using H.klt r m sz cap hr,
  ⟨H.kp.base.trans ⟨rfl,rfl,rfl,zsm,fun k hk=>by omega⟩,fun b hb=>⟨by simp; exact(H.kp.keep b hb).1,(oth b (fun e=>by subst e; exact hS hb)).trans (H.kp.keep b hb).2⟩,H.kp.wr,H.kp.own,
    fun D hD=>⟨(H.kp.mks D hD).1,(H.kp.mks D hD).2.1,(oth D (fun e=>by have:=(H.kp.mks D hD).2.2; rw[e,hl]at this; cases this)).trans (H.kp.mks D hD).2.2⟩,H.kp.nd,
    H.kp.kb.trans ⟨rfl,rfl,rfl,zsm,fun k hk=>by omega⟩,fun b hb=>⟨by simp; exact(H.kp.kk b hb).1,(oth b (fun e=>by subst e; exact hK hb)).trans (H.kp.kk b hb).2.1,(H.kp.kk b hb).2.2⟩,H.kp.zk,H.kp.mk0,H.kp.gk⟩,fun r b hb hκ=>?_,H.excl⟩
 obtain⟨m,cap,h1,h2,h3,h4⟩:=H.blk r b hb hκ;refine⟨m,cap,h1,h2,h3,?_⟩;rcases h4 with h4 | ⟨c,ty,g1,g2,g3,g4,g5,g6,g7⟩
 .exact rAW h4
 .exact rAZ ⟨c,ty,g1,(oth m (fun e=>by rw[e,hl]at g2; cases g2)).trans g2,g3,g4,fun i e he=>(g5 i e he).mono (fun _ h=>h) hcell (fun _ _ h=>h),g6,g7⟩
end
open Go.RowKit
def uHO(P:Program)(G:Gl)(C:vA8)(LeF:Nat->St->St->Prop)(n1:Nat)(assign body:Code)(ps:List Tmp)(Q:Exit->St->Prop)(t:Tm)(xs:List (List PV)):Nat->St->Prop :=
 List.rec (motive:=fun _=>Nat->St->Prop) (fun _ s'=>Q .normal { s' with t:=t })
  (fun x _ ih k s'=>wp P G C (FnH P G) (LeF,n1) assign (vDV (wp P G C (FnH P G) (LeF,n1) body (vU8 Q t ih (LeF n1) k)) (fun _ _=>False)) { s' with t:=vFV t ps x }) xs
section
variable {P:Program} {G:Gl} {C:vA8} {X:Env->Prop} {N:Nat} {w:World} {A:Nat->Prop} {κ:Ka}
theorem vOQ:∀ (ps:List Tmp) (xs:List PV) (vs:List Value) (t:Tm) (T:Array Value),RVs w A κ xs vs->T.size=N->(∀ i,i<N->RV w A κ (t i) (T.getD i undef))->xs.length=ps.length ->
 ((ps.zip vs).foldl (fun tmps (t,a)=>tmps.setIfInBounds t a) T).size=N/\∀ i,i<N->RV w A κ (vFV t ps xs i) (((ps.zip vs).foldl (fun tmps (t,a)=>tmps.setIfInBounds t a) T).getD i undef)
 | [],[],_,t,T,_,hT,ht,_=>⟨hT,ht⟩
 | p::ps,x::xs,[],_,_,h,_,_,_=>by have:=h.1; simp at this
 | p :: ps,x::xs,v::vs,t,T,h,hT,ht,hl=>by
   simp only[List.zip_cons_cons,List.foldl_cons,vFV];refine vOQ ps xs vs (vGB t p x) (T.setIfInBounds p v) ⟨by have:=h.1; simpa using this,fun i d hd=>?_⟩ (by simp[hT]) (fun i hi=>?_) (by simpa using hl)
   .have:=h.2 (i+1) d (by simpa using hd)
    simpa using this
   .by_cases e:i=p
    .subst e
     have hv:=h.2 0 x rfl;simp only[List.getD_cons_zero]at hv;simp only[vGB,rCI];rw[rBE,Array.getElem?_setIfInBounds_self_of_lt zom];exact hv
    .simp only[vGB,rAN e]
     rw[rBE,rF1 (fun h=>e h.symm),<- rBE];exact ht i hi
theorem HR.turn{E:Env}{h:Hp}{z:Fz}(H:HR E G w A κ h z){l:Nat}{r:Loop}(o':Obj)(hl:w.heap[l]?=some (.loop r))(hB:E.B<=l)(hZ:E.Z l):HR { E with kw:=w.putObj l o' } G (w.putObj l o') A κ h z:=by
 obtain⟨hK,hA,hS⟩:=H.kp.zk l hZ;have oth:∀ b,b≠l->(w.putObj l o').heap[b]?=w.heap[b]?:=fun b hb=>World.putObj_heap_other hb
 have hcell:∀ b o,A b->(w.putObj l o').cell? ⟨b,o,none⟩=w.cell? ⟨b,o,none⟩:=fun b o hb=>cell?_of_heap (oth b (fun e=>by subst e; exact hA hb)) o
 have mono:∀ {d v},RV w A κ d v->RV (w.putObj l o') A κ d v:=fun hv=>hv.mono (fun _ h=>h) hcell (fun _ _ h=>h)
 refine⟨H.bel.trans ⟨rfl,rfl,rfl,zsm,fun k hk=>oth k zom⟩,by simp[H.hB],fun b hb=>by simp; exact H.alt b hb,H.a0,H.a1,fun b o hb=>(hcell b o (H.a0 b hb)).trans (H.acell b o hb),H.k0,fun g e hg=>mono (H.glob g e hg),fun r m sz cap hr=>by simpa using H.klt r m sz cap hr,
  ⟨H.kp.base.trans ⟨rfl,rfl,rfl,zsm,fun k hk=>by omega⟩,fun b hb=>⟨by simp; exact(H.kp.keep b hb).1,(oth b (fun e=>by subst e; exact hS hb)).trans (H.kp.keep b hb).2⟩,H.kp.wr,H.kp.own,
    fun D hD=>⟨(H.kp.mks D hD).1,(H.kp.mks D hD).2.1,(oth D (fun e=>by have:=(H.kp.mks D hD).2.2; rw[e,hl]at this; cases this)).trans (H.kp.mks D hD).2.2⟩,H.kp.nd,
    Below.refl _ _,fun b hb=>⟨by simp; exact(H.kp.kk b hb).1,rfl,(H.kp.kk b hb).2.2⟩,H.kp.zk,H.kp.mk0,H.kp.gk⟩,fun r b hb hκ=>?_,H.excl⟩
 obtain⟨m,cap,h1,h2,h3,h4⟩:=H.blk r b hb hκ;refine⟨m,cap,h1,h2,h3,?_⟩;rcases h4 with h4 | ⟨c,ty,g1,g2,g3,g4,g5,g6,g7⟩
 .exact rAW h4
 .exact rAZ ⟨c,ty,g1,(oth m (fun e=>by rw[e,hl]at g2; cases g2)).trans g2,g3,g4,fun i e he=>(g5 i e he).mono (fun _ h=>h) hcell (fun _ _ h=>h),g6,g7⟩
structure Run(G:Gl)(X:Env->Prop)(F1:Env)(l:Nat)(S Wr:Nat->Prop)(W:World)(r:Loop)(E:Env)(A:Nat->Prop)(κ:Ka)(s:St):Prop where
 lt:∀ b,S b->b<W.heap.size
 wrS:∀ b,Wr b->S b
 old:∀ b,b<F1.w1.heap.size->S b
 x:X E
 re:E.re F1=E
 m:E.M=F1.M0
 hr:HR E G W A κ s.h s.z
 fresh:vDC s.nx κ s.h s.z
 n0:F1.n0<=s.nx
 cov:Cov S E A κ s.h
 wr:∀ b,S b->¬ A b->Wr b
 lp:F1.B<=l/\¬ E.S l/\¬ A l/\S l
 lK:¬ F1.K l
 rc:W.heap[l]?=some (.loop r)
theorem Run.stable{F1:Env}{l:Nat}{S Wr:Nat->Prop}{W W':World}{r:Loop}{E:Env}{s:St}(h:Run G X F1 l S Wr W r E A κ s)(hb:Below 0 W W')(hS:∀ b,S b->W'.heap[b]?=W.heap[b]?):Run G X F1 l S Wr W' r E A κ s :=
 ⟨fun b q=>rA4 (h.lt b q) hb.size,h.wrS,h.old,h.x,h.re,h.m,h.hr.same h.cov hb hS,h.fresh,h.n0,h.cov,h.wr,h.lp,h.lK,(hS l h.lp.2.2.2).trans h.rc⟩
theorem uBU{E F:Env}(h:E.re F=E):E.K=F.K/\E.Z=F.Z/\E.kw=F.kw/\E.B=F.B/\E.A0=F.A0/\E.w1=F.w1/\E.κ0=F.κ0/\E.M0=F.M0/\E.n0=F.n0/\E.gh=F.gh:=by
 rw[<- h]; exact⟨rfl,rfl,rfl,rfl,rfl,rfl,rfl,rfl,rfl,rfl⟩
def Env.round(F1:Env)(l:Nat)(S Wr:Nat->Prop)(W:World)(A Ay:Nat->Prop):Env :=
 { F1 with A0:=fun b=>A b\/Ay b,w1:=W,kw:=W,K:=fun b=>F1.K b\/(b<W.heap.size/\¬ Wr b)\/b=l,Z:=fun b=>F1.Z b\/(b<W.heap.size/\¬ S b/\¬ Ay b)\/b=l }
theorem Run.enter(hC:XOk P G C X){F1:Env}{l:Nat}{S Wr:Nat->Prop}{W:World}{r:Loop}{E:Env}{s:St}(h:Run G X F1 l S Wr W r E A κ s){Ay:Nat->Prop}(hy:∀ b,Ay b->b<W.heap.size/\¬ Wr b)(h1:F1.B<=F1.w1.heap.size) :
 ∃ E',X E'/\E'.re (F1.round l S Wr W A Ay)=E'/\E'.M=F1.M0/\HR E' G W (fun b=>A b\/Ay b) κ s.h s.z:=by
 obtain⟨eK,eZ,ekw,eB,eA0,ew1,eκ0,eM0,en0,egh⟩:=uBU h.re;have hlS:l<W.heap.size:=h.lt l h.lp.2.2.2;have hWl:Wr l:=h.wr l h.lp.2.2.2 h.lp.2.2.1
 have ownS:∀ r b m sz cap,s.h r=some b->κ r=some (m,sz,cap)->cap≠0->s.z r=false->Wr m/\m≠l:=fun r b m sz cap hb hk hc hz=>by
  obtain⟨m0,cap0,e1,e2,e3,e4⟩:=h.hr.blk r b hb (by rw[hk]; simp);rw[hk]at e1; cases e1;obtain⟨c,ty,g1,g2,g3,g4,g5,g6,g7⟩:=e4.resolve_left hc;exact⟨h.wr m (h.cov.o r b m _ cap hb hk hc) (g6 hz),fun e=>by rw[e,h.rc]at g2; cases g2⟩
 have wrW:∀ b,E.Wr b->Wr b:=fun b hb=>h.wr b (h.cov.s b (h.hr.kp.wr b hb).1) (h.hr.kp.wr b hb).2
 have oldA:∀ b,b<F1.w1.heap.size->Ay b->A b:=fun b hb hA=>rCH fun hn=>(hy b hA).2 (h.wr b (h.old b hb) hn)
 have yZ:∀ b,Ay b->¬ E.Z b:=fun b hb hz=>by
  have hK:=(h.hr.kp.zk b hz).1;refine(h.hr.kp.zk b hz).2.1 (rCH fun hn=>(hy b hb).2 (h.wr b (h.cov.k b hK) hn))
 have H1:=h.hr.more (X:=Ay) (fun b hb=>(hy b hb).1) (fun b hb=>by
  by_cases hlt:b<E.B
  .exact rAW (oldA b (by rw[eB]at hlt; omega) hb)
  .exact rAZ zom) (fun b hb hw=>(hy b hb).2 (wrW b hw)) (fun D hD hA=>(hy D hA).2 (h.wr D (h.cov.m D hD) (h.hr.kp.mks D hD).2.1.2)) yZ
  (fun r b m sz cap hb hk hc hz hA=>(hy m hA).2 (ownS r b m sz cap hb hk hc hz).1)
 refine⟨E.re (F1.round l S Wr W A Ay),hC.anch _ _ h.x egh.symm,rfl,h.m,H1.anchor _ (fun b hb=>hb) (fun b hb=>rAW hb) (fun b o _=>rfl) (fun r hr=>?_) (fun hg=>?_) eB.symm (Below.refl _ _) (fun b hb=>?_) (fun b hb=>?_) (fun D hD=>rAW (by rw[h.m]at hD; exact hD)) (fun r b m sz cap hb hk hc hz=>?_) egh.symm⟩
 .have:=h.hr.k0 r (by rw[en0]; exact hr)
  rw[eκ0]at this; exact this
 .have:=(h.hr.kp.gk hg).1
  rw[en0]at this; exact this
 .rcases hb with hb | hb | hb
  .rw[<- eK]at hb
   exact⟨(h.hr.kp.kk b hb).1,rfl,(h.hr.kp.kk b hb).2.2⟩
  .exact⟨hb.1,rfl,fun hw=>hb.2 (wrW b hw)⟩
  .subst hb
   exact⟨hlS,rfl,fun hw=>h.lp.2.1 (h.hr.kp.wr _ hw).1⟩
 .rcases hb with hb | hb | hb
  .refine⟨rAW (eK ▸ (h.hr.kp.zk b (eZ ▸ hb)).1),fun hA=>?_,(h.hr.kp.zk b (eZ ▸ hb)).2.2⟩
   rcases hA with hA | hA
   .exact(h.hr.kp.zk b (eZ ▸ hb)).2.1 hA
   .exact yZ b hA (eZ ▸ hb)
  .exact⟨rAZ (rAW ⟨hb.1,fun hw=>hb.2.1 (h.wrS b hw)⟩),fun hA=>hA.elim (fun hA=>hb.2.1 (h.cov.a b hA)) hb.2.2,fun hs=>hb.2.1 (h.cov.s b hs)⟩
  .subst hb
   exact⟨rAZ (rAZ rfl),fun hA=>hA.elim h.lp.2.2.1 (fun hA=>(hy _ hA).2 hWl),h.lp.2.1⟩
 .obtain⟨g1,g2⟩:=ownS r b m sz cap hb hk hc hz
  rintro(q | q | q)
  .exact(h.hr.kp.own r b m sz cap hb hk hc hz).2 (eK ▸ q)
  .exact q.2 g1
  .exact g2 q
theorem Run.leave(hC:XOk P G C X){F1:Env}{l:Nat}{S Wr:Nat->Prop}{W:World}{r r2 r':Loop}{E:Env}{s:St}(h:Run G X F1 l S Wr W r E A κ s){Ay:Nat->Prop}(hy:∀ b,Ay b->b<W.heap.size/\¬ Wr b)(h1:F1.B<=F1.w1.heap.size)
 {E3:Env} {kw:World} {A3:Nat->Prop} {κ3:Ka} {s3:St} {w3:World} (hX:X E3) (hre:E3.re { F1.round l S Wr W A Ay with kw:=kw }=E3) (hM:E3.M=F1.M0) (H:HR E3 G w3 A3 κ3 s3.h s3.z) (hf:vDC s3.nx κ3 s3.h s3.z) (hn:F1.n0<=s3.nx)
 (hkb:Below 0 W kw) (hkw:∀ b,(F1.round l S Wr W A Ay).K b->b≠l->kw.heap[b]?=W.heap[b]?) (hl3:w3.heap[l]?=some (.loop r2)) :
 ∃ S' Wr' E',Run G X F1 l S' Wr' (w3.putObj l (.loop r')) r' E' A3 κ3 s3/\Below 0 W (w3.putObj l (.loop r'))/\(∀ b,b<W.heap.size->¬ Wr b->(w3.putObj l (.loop r')).heap[b]?=W.heap[b]?) /\
   (∀ b,Wr' b->Wr b\/W.heap.size<=b)/\(∀ b,S' b->S b\/Ay b\/W.heap.size<=b):=by
 obtain⟨fK,fZ,fkw,fB,fA0,fw1,fκ0,fM0,fn0,fgh⟩:=uBU h.re;obtain⟨eK,eZ,ekw,eB,eA0,ew1,eκ0,eM0,en0,egh⟩:=uBU hre;have hZl:E3.Z l:=by rw[eZ]; exact rAZ (rAZ rfl)
 have hWl:Wr l:=h.wr l h.lp.2.2.2 h.lp.2.2.1;have hB3:E3.B=F1.B:=eB;have T:=H.turn (.loop r') hl3 (by rw[hB3]; exact h.lp.1) hZl;have hsz:W.heap.size<=w3.heap.size:=by have:=H.kp.kb; rw[ekw]at this; exact rBV hkb.size this.size
 have hb3:Below 0 W (w3.putObj l (.loop r')):=by
  have:=H.kp.kb; rw[ekw]at this;exact(hkb.trans this).trans ⟨rfl,rfl,rfl,zsm,fun k hk=>by omega⟩
 have hkeep:∀ b,(F1.round l S Wr W A Ay).K b->b≠l->(w3.putObj l (.loop r')).heap[b]?=W.heap[b]?:=fun b hb hne=>by
  have:=(H.kp.kk b (by rw[eK]; exact hb)).2.1;rw[World.putObj_heap_other hne,this,ekw];exact hkw b hb hne
 have hAA:∀ b,A b\/Ay b->A3 b:=fun b hb=>H.a0 b (by rw[eA0]; exact hb)
 have wrW:∀ b,E.Wr b->Wr b:=fun b hb=>h.wr b (h.cov.s b (h.hr.kp.wr b hb).1) (h.hr.kp.wr b hb).2
 have oldA:∀ b,b<F1.w1.heap.size->Ay b->A b:=fun b hb hA=>rCH fun hn=>(hy b hA).2 (h.wr b (h.old b hb) hn)
 have hcel:∀ b o,A b\/Ay b->(w3.putObj l (.loop r')).cell? ⟨b,o,none⟩=W.cell? ⟨b,o,none⟩:=fun b o hb=>by
  have:=T.acell b o (by show E3.A0 b; rw[eA0]; exact hb);rw[this]; show E3.w1.cell? _=_; rw[ew1]; rfl
 have K1:∀ b,F1.K b->E3.K b:=fun b hb=>by rw[eK]; exact rAW hb
 have lne:∀ b,F1.K b->b≠l:=fun b hb e=>h.lK (e ▸ hb)
 have HA:=T.anchor F1 (fun b hb=>hAA b (rAW (h.hr.a0 b (fA0 ▸ hb)))) (fun b hb=>by
  rcases H.a1 b hb with q | q
  .rw [eA0]at q
   rcases q with q | q
   .rcases h.hr.a1 b q with q | q
    .exact rAW (fA0 ▸ q)
    .exact rAZ (by show E3.B<=b; rw[hB3]; rw[fB]at q; exact q)
   .by_cases hlt:b<F1.w1.heap.size
    .rcases h.hr.a1 b (oldA b hlt q) with q | q
     .exact rAW (fA0 ▸ q)
     .exact rAZ (by show E3.B<=b; rw[hB3]; rw[fB]at q; exact q)
    .exact rAZ (by show E3.B<=b; rw[hB3]; omega)
  .exact rAZ q) (fun b o hb=>by
  rw[hcel b o (rAW (h.hr.a0 b (fA0 ▸ hb)))];have:=h.hr.acell b o (fA0 ▸ hb)
  rw[fw1]at this; exact this) (fun r hr=>by
  have:=H.k0 r (by rw[en0]; exact hr)
  rw[eκ0]at this; exact this) (fun hg=>by
  have:=(H.kp.gk hg).1
  rw[en0]at this; exact this) (by show F1.B=E3.B; rw[hB3]) (by have:=h.hr.kp.kb; rw[fkw]at this; exact this.trans hb3) (fun b hb=>by
  have q:=h.hr.kp.kk b (fK ▸ hb);refine⟨by simp; omega,?_,(H.kp.kk b (K1 b hb)).2.2⟩
  rw[hkeep b (rAW hb) (lne b hb),q.2.1,fkw]) (fun b hb=>by
  have q:=H.kp.zk b (by rw[eZ]; exact rAW hb)
  exact⟨fK ▸ (h.hr.kp.zk b (fZ ▸ hb)).1,q.2.1,q.2.2⟩) (fun D hD=>rAW (by rw[<- hM]; exact hD)) (fun r b m sz cap hb hk hc hz q=>(H.kp.own r b m sz cap hb hk hc hz).2 (K1 m q)) egh.symm
 have notZ:∀ b,b<W.heap.size->¬ E3.Z b->S b\/Ay b:=fun b hlt hz=>rCH fun hn=>hz (by
  rw[eZ]; exact rAZ (rAW ⟨hlt,fun q=>hn (rAW q),fun q=>hn (rAZ q)⟩))
 have side:∀ b,b<w3.heap.size->¬ E3.Z b->b<w3.heap.size/\(S b\/Ay b\/W.heap.size<=b):=fun b hb hz=>⟨hb,by
  by_cases hlt:b<W.heap.size
  .rcases notZ b hlt hz with q | q
   .exact rAW q
   .exact rAZ (rAW q)
  .exact rAZ (rAZ zom)⟩
 have oldS:∀ b,b<F1.w1.heap.size->b<w3.heap.size/\(S b\/Ay b\/W.heap.size<=b):=fun b hb=>⟨rA4 (h.lt b (h.old b hb)) hsz,rAW (h.old b hb)⟩
 refine⟨fun b=>b<w3.heap.size/\(S b\/Ay b\/W.heap.size<=b),fun b=>(b<w3.heap.size/\(S b\/Ay b\/W.heap.size<=b))/\¬ A3 b,E3.re F1,
  ⟨fun b hb=>by simp; exact hb.1,fun b hb=>hb.1,oldS,hC.anch E3 F1 hX egh.symm,rfl,hM,HA,hf,hn,?_,fun b hb hA=>⟨hb,hA⟩,⟨h.lp.1,(H.kp.zk l hZl).2.2,(H.kp.zk l hZl).2.1,rA4 (h.lt l h.lp.2.2.2) hsz,rAW h.lp.2.2.2⟩,h.lK,World.putObj_heap_same (rA6.1 hl3).1⟩,
  hb3,fun b hlt hw=>?_,fun b hb=>?_,fun b hb=>hb.2⟩
 .refine⟨fun b hb=>oldS b (by have e:b<F1.B:=hb; omega),fun b hb=>side b (H.alt b hb) fun hz=>(H.kp.zk b hz).2.1 hb,fun b hb=>side b (H.kp.keep b hb).1 fun hz=>(H.kp.zk b hz).2.2 hb,fun D hD=>?_,fun b hb=>?_,fun r b m sz cap hb hk hc=>?_⟩
  .have q:=h.cov.m D (by rw[h.m]; exact hM ▸ hD)
   exact⟨rA4 (h.lt D q) hsz,rAW q⟩
  .have q:=h.cov.k b (by rw[fK]; exact hb)
   exact⟨rA4 (h.lt b q) hsz,rAW q⟩
  .refine side m ((H.klt r m sz cap hk).resolve_left hc) fun hz=>?_
   obtain⟨m0,cap0,e1,e2,e3,e4⟩:=H.blk r b hb (by rw[hk]; simp);rw[hk]at e1; cases e1;obtain⟨c,ty,g1,g2,g3,g4,g5,g6,g7⟩:=e4.resolve_left hc;cases hzr:s3.z r with
   | false=>exact(H.kp.own r b m _ cap hb hk hc hzr).2 (H.kp.zk m hz).1
   | true=>exact(H.kp.zk m hz).2.1 (g7 hzr)
 .exact hkeep b (rAZ (rAW ⟨hlt,hw⟩)) (fun e=>hw (e ▸ hWl))
 .by_cases hlt:b<W.heap.size
  .left
   rcases hb.1.2 with q | q | q
   .exact h.wr b q fun hA=>hb.2 (hAA b (rAW hA))
   .exact absurd (hAA b (rAZ q)) hb.2
   .omega
  .exact rAZ zom
end
end Go.PI
