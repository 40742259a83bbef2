/-
  The reference: affine forms: Eval.
-/
import Derived.Test.YtcbepncdbgaohaaGreatDoorCA3
import Derived.Test.YtcbepncdbgaohaaGreatDoorChecked
set_option linter.all false
set_option maxHeartbeats 0
namespace Go.PI.Tryz
open Go.Proofs Go.Proofs.Tryz
noncomputable abbrev t:Nat->TI:=zK prog
noncomputable def tab:List TI:=[t 0,t 1,t 2,⟨1,8,false,0,some .i64,[],.int .i64 0,true,false,false,false,false,0,false,false⟩,⟨1,1,false,0,none,[],.bool false,true,false,false,true,false,0,false,false⟩,⟨1,1,false,0,some .u8,[],.int .u8 0,true,false,false,false,false,0,false,false⟩,t 6,t 7,t 8,⟨1,16,false,0,none,[],.str ByteArray.empty,true,false,false,false,true,0,false,false⟩,t 10,t 11,t 12,t 13,t 14,t 15,t 16,t 17,t 18,t 19,t 20,t 21,⟨1,24,false,5,none,[],.nilsl,true,true,false,false,false,0,false,false⟩,t 23,⟨1,24,false,36,none,[],.nilsl,true,true,false,false,false,0,false,false⟩,t 25,⟨3,56,true,0,none,[(0,3,1),(1,24,1),(2,24,1)],.agg [.int .i64 0,.nilsl,.nilsl],true,false,true,false,false,0,false,false⟩,⟨1,24,false,34,none,[],.nilsl,true,true,false,false,false,0,false,false⟩,t 28,⟨3,72,true,0,none,[(0,27,1),(1,27,1),(2,24,1)],.agg [.nilsl,.nilsl,.nilsl],true,false,true,false,false,0,false,false⟩,⟨1,24,false,108,none,[],.nilsl,true,true,false,false,false,0,false,false⟩,⟨1,24,false,185,none,[],.nilsl,true,true,false,false,false,0,false,false⟩,⟨1,24,false,185,none,[],.nilsl,true,true,false,false,false,0,false,false⟩,t 33,⟨3,56,true,0,none,[(0,4,1),(1,32,1),(2,32,1)],.agg [.bool false,.nilsl,.nilsl],true,false,true,false,false,0,false,false⟩,t 35,⟨4,80,true,0,none,[(0,30,1),(1,34,3)],.agg [.nilsl,.bool false,.nilsl,.nilsl],true,false,true,false,false,0,false,false⟩,t 37,⟨10,208,true,0,none,[(0,26,3),(3,29,3),(6,36,4)],.agg [.int .i64 0,.nilsl,.nilsl,.nilsl,.nilsl,.nilsl,.nilsl,.bool false,.nilsl,.nilsl],true,false,true,false,false,0,false,false⟩,t 39,t 40,t 41,⟨1,24,false,47,none,[],.nilsl,true,true,false,false,false,0,false,false⟩,⟨1,24,false,137,none,[],.nilsl,true,true,false,false,false,0,false,false⟩,t 44,⟨12,256,true,0,none,[(0,38,10),(10,42,1),(11,43,1)],.agg [.int .i64 0,.nilsl,.nilsl,.nilsl,.nilsl,.nilsl,.nilsl,.bool false,.nilsl,.nilsl,.nilsl,.nilsl],true,false,true,false,false,0,false,false⟩,t 46,⟨5,72,true,0,none,[(0,3,1),(1,3,1),(2,34,3)],.agg [.int .i64 0,.int .i64 0,.bool false,.nilsl,.nilsl],true,false,true,false,false,0,false,false⟩,⟨1,24,false,92,none,[],.nilsl,true,true,false,false,false,0,false,false⟩,t 49,⟨6,112,true,0,none,[(0,3,1),(1,34,3),(4,27,1),(5,48,1)],.agg [.int .i64 0,.bool false,.nilsl,.nilsl,.nilsl,.nilsl],true,false,true,false,false,0,false,false⟩,⟨1,8,false,0,some .i64,[],.int .i64 0,true,false,false,false,false,0,false,false⟩,t 52,t 53,t 54,t 55,t 56,t 57,t 58,t 59,t 60,t 61,t 62,t 63,t 64,⟨6,112,true,0,none,[(0,3,1),(1,24,1),(2,36,4)],.agg [.int .i64 0,.nilsl,.nilsl,.bool false,.nilsl,.nilsl],true,false,true,false,false,0,false,false⟩,⟨1,24,false,3,none,[],.nilsl,true,true,false,false,false,0,false,false⟩,t 67,⟨9,168,true,0,none,[(0,3,1),(1,34,3),(4,27,1),(5,27,1),(6,27,1),(7,66,1),(8,3,1)],.agg [.int .i64 0,.bool false,.nilsl,.nilsl,.nilsl,.nilsl,.nilsl,.nilsl,.int .i64 0],true,false,true,false,false,0,false,false⟩,t 69,t 70,t 71,t 72,t 73,t 74,⟨1,8,false,0,none,[],.raw (Value.pointer none),true,false,false,false,false,0,false,true⟩,t 76,⟨1,24,false,66,none,[],.nilsl,true,true,false,false,false,0,false,false⟩,t 78,t 79,t 80,t 81,t 82,t 83,t 84,t 85,⟨1,24,false,90,none,[],.nilsl,true,true,false,false,false,0,false,false⟩,t 87,t 88,t 89,⟨4,32,true,0,none,[(0,3,1),(1,3,1),(2,3,1),(3,3,1)],.agg [.int .i64 0,.int .i64 0,.int .i64 0,.int .i64 0],true,false,true,false,false,0,true,false⟩,t 91,⟨7,88,true,0,none,[(0,90,4),(4,34,3)],.agg [.int .i64 0,.int .i64 0,.int .i64 0,.int .i64 0,.bool false,.nilsl,.nilsl],true,false,true,false,false,0,false,false⟩,t 93,t 94,t 95,t 96,t 97,t 98,t 99,t 100,t 101,t 102,⟨1,8,false,0,none,[],.nilfunc,true,false,false,false,false,0,false,false⟩,t 104,t 105,t 106,t 107,⟨4,64,true,0,none,[(0,3,1),(1,34,3)],.agg [.int .i64 0,.bool false,.nilsl,.nilsl],true,false,true,false,false,0,false,false⟩,t 109,t 110,⟨2,32,true,0,none,[(0,4,1),(1,32,1)],.agg [.bool false,.nilsl],true,false,true,false,false,0,false,false⟩,t 112,t 113,⟨1,8,false,0,none,[],.raw (Value.pointer none),true,false,false,false,false,0,false,true⟩,t 115,t 116,t 117,⟨1,24,false,27,none,[],.nilsl,true,true,false,false,false,0,false,false⟩,t 119,⟨7,120,true,0,none,[(0,3,1),(1,3,1),(2,66,1),(3,66,1),(4,118,1),(5,27,1),(6,3,1)],.agg [.int .i64 0,.int .i64 0,.nilsl,.nilsl,.nilsl,.nilsl,.int .i64 0],true,false,true,false,false,0,false,false⟩,t 121,⟨1,8,false,0,none,[],.nilfunc,true,false,false,false,false,0,false,false⟩,t 123,t 124,t 125,t 126,t 127,t 128,t 129,t 130,t 131,t 132,t 133,t 134,t 135,t 136,⟨6,96,true,0,none,[(0,3,1),(1,4,1),(2,34,3),(5,48,1)],.agg [.int .i64 0,.bool false,.bool false,.nilsl,.nilsl,.nilsl],true,false,true,false,false,0,false,false⟩,t 138,t 139,t 140,t 141,t 142,t 143,t 144,⟨2,32,true,0,none,[(0,22,1),(1,3,1)],.agg [.nilsl,.int .i64 0],true,false,true,false,false,0,false,false⟩,t 146,t 147,⟨1,24,false,153,none,[],.nilsl,true,true,false,false,false,0,false,false⟩,t 149,t 150,⟨1,8,false,0,some .u64,[],.int .u64 0,true,false,false,false,false,0,false,false⟩,t 152,⟨2,32,true,0,none,[(0,66,1),(1,151,1)],.agg [.nilsl,.int .u64 0],true,false,true,false,false,0,false,false⟩,⟨1,24,false,4,none,[],.nilsl,true,true,false,false,false,0,false,false⟩,t 155,t 156,t 157,t 158,t 159,t 160,t 161,⟨1,8,false,0,none,[],.nilfunc,true,false,false,false,false,0,false,false⟩,t 163,⟨1,8,false,0,none,[],.nilfunc,true,false,false,false,false,0,false,false⟩,t 165,t 166,t 167,⟨1,8,false,0,none,[],.nilfunc,true,false,false,false,false,0,false,false⟩,t 169,t 170,t 171,t 172,t 173,t 174,t 175,t 176,t 177,t 178,⟨1,8,false,0,none,[],.nilfunc,true,false,false,false,false,0,false,false⟩,t 180,t 181,t 182,⟨1,8,false,0,none,[],.nilfunc,true,false,false,false,false,0,false,false⟩,t 184,⟨1,4,false,0,some .u32,[],.int .u32 0,true,false,false,false,false,0,false,false⟩,t 186,t 187,t 188,t 189,t 190,t 191,t 192,t 193,t 194,t 195,t 196,t 197,t 198,t 199,t 200,t 201,t 202,t 203,t 204,t 205,t 206,t 207,t 208,t 209,t 210,t 211,t 212,t 213,t 214,t 215,t 216,t 217,t 218,t 219,t 220,t 221,t 222,t 223,t 224,t 225,t 226,t 227,t 228,t 229,⟨14,112,true,162,none,[],.agg [.nilfunc,.nilfunc,.nilfunc,.nilfunc,.nilfunc,.nilfunc,.nilfunc,.nilfunc,.nilfunc,.nilfunc,.nilfunc,.nilfunc,.nilfunc,.nilfunc],true,false,false,false,false,14,false,false⟩,t 231,t 232,t 233,t 234,t 235,t 236,t 237,t 238,t 239,t 240,t 241,t 242,t 243,t 244,t 245,t 246,t 247,t 248,t 249,t 250,t 251,t 252,t 253,t 254,t 255,t 256,t 257,t 258,t 259,t 260,t 261,t 262,t 263,t 264,t 265,⟨4,32,true,3,none,[],.agg [.int .i64 0,.int .i64 0,.int .i64 0,.int .i64 0],true,false,false,false,false,4,false,false⟩,t 267,t 268,t 269,⟨32,568,true,0,none,[(0,45,12),(12,90,4),(16,36,4),(20,36,4),(24,34,3),(27,34,3),(30,4,1),(31,4,1)],.agg [.int .i64 0,.nilsl,.nilsl,.nilsl,.nilsl,.nilsl,.nilsl,.bool false,.nilsl,.nilsl,.nilsl,.nilsl,.int .i64 0,.int .i64 0,.int .i64 0,.int .i64 0,.nilsl,.bool false,.nilsl,.nilsl,.nilsl,.bool false,.nilsl,.nilsl,.bool false,.nilsl,.nilsl,.bool false,.nilsl,.nilsl,.bool false,.bool false],true,false,true,false,false,0,false,false⟩,t 271,t 272,t 273,t 274,t 275,t 276,t 277,t 278,t 279,t 280,t 281,t 282,t 283,t 284,t 285,t 286,t 287,t 288,t 289,t 290,t 291,t 292,t 293,t 294,t 295,t 296,t 297,t 298,t 299,t 300,t 301,t 302,t 303,t 304,t 305,t 306,t 307,t 308,t 309,t 310,t 311,t 312,t 313,t 314,t 315,t 316,t 317,t 318,t 319,t 320,t 321,t 322,t 323,t 324,t 325,t 326,t 327,t 328,t 329,t 330,t 331,t 332,t 333,t 334,t 335,t 336,t 337,t 338,t 339,t 340,t 341,t 342,t 343,t 344,t 345,t 346,t 347,t 348,t 349,t 350,t 351,t 352,t 353,t 354,t 355,t 356,t 357,t 358,t 359,t 360,t 361,t 362,t 363,t 364,t 365,t 366,t 367,t 368,t 369,t 370,t 371,t 372,t 373]
def uYS:∀ i x,nth tab i=some x->zK prog i=x:=uRY x7
noncomputable abbrev T:Ti:=nth tab
abbrev hT:=uYS
open Go.Proofs Go.PI Go.Proofs.Tryz
def zU:prog.follows .mixedOrders=true:=by kernel_rfl
def G0:Gl:=fun g=>none
abbrev Fn:=FnC prog G0
abbrev FO(n:FuncId)(f:Func)(rs:List ResultVar)(nt:Nat):Prop:=FnOk prog n f (f.body.getD .skip) rs nt
def mkO {n : FuncId} {f : Func} {rs : List ResultVar} {nt : Nat} (h1 : prog.funcs[n]? = some f) (h2 : f.ntmps = nt) (h3 : f.results = rs.toArray) (hb : f.body = some (f.body.getD .skip) := by exact rfl) (hn : f.name ≠ "runtime.NumGoroutine" := by decide) (h4 : mF nt (f.body.getD .skip) = true := by kernel_rfl) (h5 : rs.all (BJ nt) = true := by kernel_rfl) : FO n f rs nt := ⟨h1, hb, hn, h2, h3, h4, h5⟩
def fnV{n:FuncId}{f:Func}{rs:List ResultVar}{nt:Nat}{ds:List PV}{d:PV}{q:Prop}(ok:FO n f rs nt)(k:q)(hl:ds.length<=nt:=by simp)(e:Hq q->VC prog T G0 0 (f.body.getD .skip) (rS T rs fun v s=>Ee s.h v d) (G6 ds):=by
 intro hq;refine sts ?_
 exact hq.h):Fn n ds (.data d):=yJ zU hT ok hl (e ⟨k⟩)
def sQ(xs:List Int)(ho:okN xs)(hl:xs.length<2147483648):Fn 225 [zQ xs] (.data (zQ (zJ (nv xs)))):=by
 refine fnV (mkO func225 ntmps225 results225) ?_;refine rU hT (fun n:Nat=>[(0,zQ xs),(3,.int .i64 n)]) (fun n=>n<=xs.length/\∀ j,n<=j->j<xs.length->xs[j]! = 0) (fun n=>n) xs.length ⟨zX _,fun j h1 h2=>by omega⟩ ?_ ?_
 .exact⟨zM,zG rfl zsm,zA⟩
 .intro n ⟨hn,hz⟩
  (refine gob ?_ ?_<;>intro h;rotate_left;refine gob ?_ ?_<;>intro h;rotate_right)
  .refine wP (j:=n-1) zom zom ?_
   (refine gob ?_ ?_<;>intro h;rotate_left;refine gob ?_ ?_<;>intro h;rotate_right)
   .refine⟨n-1,⟨⟨zom,fun j h1 h2=>?_⟩,zom⟩,zM,zG rfl zom,zA⟩
    by_cases e:j=n-1
    .subst e;assumption
    .exact hz j zom h2
   .omega
   .refine nH (l':=xs.take n) zsm ?_
    refine sts ?_;refine zL rfl ?_;rw[KL ho hn hz (zC xU)]
  .have h0:n=0:=zom
   subst h0;refine zL rfl ?_;rw[<- KL ho hn hz (zF rfl)];rfl
  .omega
def vS6(xs:List Int)(hl:xs.length<2147483648):Fn 241 [zQ xs] (.fresh (xs.map (.int .u32)) 1 false):=by
 refine dV zU hT (mkO func241 ntmps241 results241) zsm ?_
 (repeat' (first|refine stp ?_|(with_reducible refine brr ?_ ?_<;>intro h)|(with_reducible refine Gz ?_ ?_<;>intro h)|with_reducible refine G3 ?_ ?_));all_goals try (conv=>whnf)
 .subst h;exact KF
 all_goals refine dU rfl rfl ?_ rfl (BM (fun x=>qD x) _)
 all_goals simp
def IC(xs:List Int)(ho:okN xs)(hl:xs.length<2147483648):Fn 196 [zQ xs] (.data (zQ (zJ (nv xs)))):=by
 have h2:=uC ho;refine fnV (mkO func196 ntmps196 results196) ?_;refine cvd (sQ xs ho hl) ?_;refine BS (vS6 _ zom) rfl (sts ?_);exact zL (xP rfl rfl zsm (fun x=>qD x)) rfl
def DT(xs:List Int):Bool:=decide (xs=[]\/xs[xs.length-1]! ≠ 0)
def uHL(xs:List Int)(hl:xs.length<2147483648):Fn 176 [zQ xs] (.data (.bool (DT xs))):=by
 refine yJ zU hT (mkO func176 ntmps176 results176) zsm ?_
 refine gob ?_ ?_<;>intro h
 .refine zL rfl ?_
  have:xs=[]:=vZ.1 zom;simp[DT,this]
 .refine wP (j:=xs.length-1) qK zom ?_
  refine sts ?_;refine zL rfl (zV PV.bool ?_);have:xs≠[]:=fun e=>by subst e;simp at *
  rw[uQ1];exact bW.2 ⟨fun h=>zC h,fun h=>h.resolve_left this⟩
def K6(n:Nat)(hn:n<18446744073709551616):Fn 191 [.int .u64 n] (.data (zQ (zJ n))):=by
 refine fnV (mkO func191 ntmps191 results191) ?_;refine sK (sts ?_);rw[mH];refine sK (sts ?_);have hv:nv [(n:Int)%4294967296,(n:Int)/4294967296%4294967296]=n:=by simp only[nv];omega
 have:=sQ [(n:Int)%4294967296,(n:Int)/4294967296%4294967296] (by intro x hx;simp only[yI,uU,uX]at hx;omega) zsm;rw[hv]at this;refine cvd this ?_;exact yD
def vD(a b:Int):Int:=if a<b then -1 else if b<a then 1 else 0
def DU(xs ys:List Int)(hx:okN xs)(hy:okN ys)(hl:xs.length<2147483648)(hl2:ys.length<2147483648):Fn 177 [zQ xs,zQ ys] (.data (.int .i64 (vD (nv xs) (nv ys)))):=by
 have ct1:=sQ xs hx hl;have ct2:=sQ ys hy hl2;obtain⟨A,eA⟩:∃ A,zJ (nv xs)=A:=⟨_,rfl⟩;obtain⟨B,eB⟩:∃ B,zJ (nv ys)=B:=⟨_,rfl⟩;have ha:lQ A:=eA ▸ cA _;have hb:lQ B:=eB ▸ cA _;have ea:nv A=nv xs:=by rw[<- eA,yR]
 have eb:nv B=nv ys:=by rw[<- eB,yR]
 have h1:A.length<=xs.length:=eA ▸ uC hx;have h2:B.length<=ys.length:=eB ▸ uC hy;rw[eA]at ct1;rw[eB]at ct2;rw[<- ea,<- eb];refine fnV (mkO func177 ntmps177 results177) ?_;refine cvd ct1 ?_;refine zT ct2 rfl ?_
 (refine gob ?_ ?_<;>intro h;refine gob ?_ ?_<;>intro h)
 .have:=KN ha hb zom
  refine zL rfl ?_;unfold vD;rw[zE zom]
 .have:=KN hb ha zom
  refine zL rfl ?_;unfold vD;rw[zB zom,zE zom]
 .have hlen:A.length=B.length:=zom
  refine rU hT (fun n:Nat=>[(0,zQ A),(1,zQ B),(5,.int .i64 ((n:Int)-1))]) (fun n=>n<=A.length/\nt A n=nt B n) (fun n=>n) A.length ⟨zX _,by rw[iT (zX _),iT zom]⟩ ?_ ?_
  .exact⟨zM,zM,zG rfl zsm,zA⟩
  .intro n ⟨hn,hnt⟩
   have hA:=ha.1;have hB:=hb.1;have hsa:=nK hA (n-1);have hsb:=nK hB (n-1)
   refine gob ?_ ?_<;>intro h
   .refine wP (j:=n-1) zom zom ?_
    refine sts ?_;refine wP (j:=n-1) zom zom ?_
    refine gob ?_ ?_<;>intro h
    all_goals try (refine wP (j:=n-1) zom zom ?_;refine sts ?_)
    all_goals try (refine wP (j:=n-1) zom zom ?_;(refine gob ?_ ?_<;>intro h))
    .have h0:n-1+1=n:=zom
     have:=KM hA hB (i:=n-1) (by rw[h0];exact hnt) (zC hsa) (zC hsb) (by have:=wF (show n-1<A.length by omega) hA;have:=wF (show n-1<B.length by omega) hB;omega);refine zL rfl ?_;unfold vD;rw[zE zom]
    .have h0:n-1+1=n:=zom
     have:=KM hB hA (i:=n-1) (by rw[h0];exact hnt.symm) (zC hsb) (zC hsa) (by have:=wF (show n-1<A.length by omega) hA;have:=wF (show n-1<B.length by omega) hB;omega);refine zL rfl ?_;unfold vD;rw[zB zom,zE zom]
    .have h0:n-1+1=n:=zom
     refine⟨n-1,⟨⟨zom,?_⟩,zom⟩,zM,zM,zG rfl zom,zA⟩;rw[hsa,hsb,h0,hnt];have:=wF (show n-1<A.length by omega) hA;have:=wF (show n-1<B.length by omega) hB;omega
   .have h0:n=0:=zom
    subst h0;rw[Bb,Bb]at hnt;refine zL rfl ?_;unfold vD;rw[zB zom,zB zom]
def uU9(xs ys:List Int)(hx:okN xs)(hy:okN ys)(hl:xs.length<2147483647)(hl2:ys.length<2147483647):Fn 220 [zQ xs,zQ ys] (.data (zQ (zJ (nv xs+nv ys)))):=by
 have ct1:=sQ xs hx zom;have ct2:=sQ ys hy zom;obtain⟨A,eA⟩:∃ A,zJ (nv xs)=A:=⟨_,rfl⟩;obtain⟨B,eB⟩:∃ B,zJ (nv ys)=B:=⟨_,rfl⟩;have ha:okN A:=eA ▸ yP _;have hb:okN B:=eB ▸ yP _;have ea:nv A=nv xs:=by rw[<- eA,yR]
 have eb:nv B=nv ys:=by rw[<- eB,yR]
 have h1:A.length<=xs.length:=eA ▸ uC hx;have h2:B.length<=ys.length:=eB ▸ uC hy;rw[eA]at ct1;rw[eB]at ct2;obtain⟨N,eN⟩:∃ N,nv xs+nv ys=N:=⟨_,rfl⟩;rw[eN];have hN:nv A+nv B=N:=zom
 clear eA eB ea eb eN hx hy;refine fnV (mkO func220 ntmps220 results220) ?_;refine cvd ct1 ?_;refine zT ct2 rfl ?_
 refine gob ?_ ?_<;>intro h
 .refine xG hT (fun((i,O,c):Nat×List Int×Nat)=>[(0,zQ B),(1,zQ A),(5,.own 0 0 (B.length+1)),(6,.int .u64 c),(24,zQ B),(25,.int .i64 B.length),(26,.int .i64 i)]) (fun(_,O,_)=>[(0,⟨O.map (.int .u32),1,false⟩)]) [] 1
   (fun(i,O,c)=>i<=B.length/\O.length=B.length+1/\okN O/\c<2/\nk O i+c*pw i=nk B i+nk A i) (fun(i,_,_)=>B.length-i) (0,List.replicate (B.length+1) 0,0) ⟨zsm,zsm,dY _,zsm,by simp[rW]⟩ zdd zsm ?_ ?_
  .exact⟨[19],[],[],[],ttt,⟨zM,zM,zI zdd rfl zsm,zD,zM,zG rfl zsm,zD,zA⟩,⟨zH zdd rfl (by simp[List.replicate_succ]) (yZ fun _=>⟨rfl,zsm⟩) rfl,zA⟩,zO⟩
  .intro⟨i,O,c⟩ ⟨hi,hO,hok,hc,hv⟩
   have hBi:i<B.length->0<=B[i]! /\ B[i]! < 4294967296:=fun h=>nJ hb h
   have hAi:i<A.length->0<=A[i]! /\ A[i]! < 4294967296:=fun h=>nJ ha h
   (refine gob ?_ ?_<;>intro h;refine gob ?_ ?_<;>intro h)
   .have h1:=wF (show i<B.length by omega) hb
    have h2:=wF (show i<A.length by omega) ha;obtain⟨s,hs⟩:∃ s,c+lb B i+lb A i=s:=⟨_,rfl⟩;refine sK (sts ?_);refine yB i zom zom (sts ?_)
    refine⟨(i+1,O.set i ((s%4294967296:Nat):Int),s/4294967296),⟨⟨zom,by simp[hO],rV hok i zom,zom,?_⟩,zbo⟩,[0],[],[],[],ttt,
     ⟨zM,zM,zI zdd rfl rfl,zG rfl (by rw[mH];omega),zM,zD,zG rfl zom,zA⟩,⟨zH zdd rfl (x5 zom zom) (yZ fun _=>⟨rfl,zsm⟩) rfl,zA⟩,zO⟩
    rw[jX _ zom,wV,wV,xX];have:=C7 (pw i) s;simp only[Int.toNat_natCast];rw[<- hs]at this ⊢;simp only[xH]at this ⊢;simp only[wC c (pw i)]at hv;omega
   .have h1:=wF (show i<B.length by omega) hb
    have h2:=Ba (show A.length<=i by omega);obtain⟨s,hs⟩:∃ s,c+lb B i+lb A i=s:=⟨_,rfl⟩;refine sK (sts ?_);refine yB i zom zom (sts ?_)
    refine⟨(i+1,O.set i ((s%4294967296:Nat):Int),s/4294967296),⟨⟨zom,by simp[hO],rV hok i zom,zom,?_⟩,zbo⟩,[0],[],[],[],ttt,
     ⟨zM,zM,zI zdd rfl rfl,zG rfl (by rw[mH];omega),zM,zD,zG rfl zom,zA⟩,⟨zH zdd rfl (x5 zom zom) (yZ fun _=>⟨rfl,zsm⟩) rfl,zA⟩,zO⟩
    rw[jX _ zom,wV,wV,xX];have:=C7 (pw i) s;simp only[Int.toNat_natCast];rw[<- hs]at this ⊢;simp only[xH]at this ⊢;simp only[wC c (pw i)]at hv;omega
   .have hi':i=B.length:=zom
    refine yB i yE zom (sts ?_)
    have hn:nv (O.set i (c:Int))=N:=by
     rw[<- vU (show(O.set i (c:Int)).length<=i+1 by simp;omega),jX _ zom,Int.toNat_natCast,<- hN,bX (nv A),<- vU (a:=B) (k:=i) zom,<- vU (a:=A) (k:=i) zom,<- hv,wC]
    have ct:=sQ (O.set i (c:Int)) (rV hok i zom) yE;rw[hn]at ct;refine zT ct (yL (xP rfl (x5 yE rfl) yE (fun x=>qD x)) rfl) (sts ?_);exact yD
 .refine xG hT (fun((i,O,c):Nat×List Int×Nat)=>[(0,zQ A),(1,zQ B),(5,.own 0 0 (A.length+1)),(6,.int .u64 c),(24,zQ A),(25,.int .i64 A.length),(26,.int .i64 i)]) (fun(_,O,_)=>[(0,⟨O.map (.int .u32),1,false⟩)]) [] 1
   (fun(i,O,c)=>i<=A.length/\O.length=A.length+1/\okN O/\c<2/\nk O i+c*pw i=nk A i+nk B i) (fun(i,_,_)=>A.length-i) (0,List.replicate (A.length+1) 0,0) ⟨zsm,zsm,dY _,zsm,by simp[rW]⟩ zdd zsm ?_ ?_
  .exact⟨[15],[],[],[],ttt,⟨zM,zM,zI zdd rfl zsm,zD,zM,zG rfl zsm,zD,zA⟩,⟨zH zdd rfl (by simp[List.replicate_succ]) (yZ fun _=>⟨rfl,zsm⟩) rfl,zA⟩,zO⟩
  .intro⟨i,O,c⟩ ⟨hi,hO,hok,hc,hv⟩
   have hAi:i<A.length->0<=A[i]! /\ A[i]! < 4294967296:=fun h=>nJ ha h
   have hBi:i<B.length->0<=B[i]! /\ B[i]! < 4294967296:=fun h=>nJ hb h
   (refine gob ?_ ?_<;>intro h;refine gob ?_ ?_<;>intro h)
   .have h1:=wF (show i<A.length by omega) ha
    have h2:=wF (show i<B.length by omega) hb;obtain⟨s,hs⟩:∃ s,c+lb A i+lb B i=s:=⟨_,rfl⟩;refine sK (sts ?_);refine yB i zom zom (sts ?_)
    refine⟨(i+1,O.set i ((s%4294967296:Nat):Int),s/4294967296),⟨⟨zom,by simp[hO],rV hok i zom,zom,?_⟩,zbo⟩,[0],[],[],[],ttt,
     ⟨zM,zM,zI zdd rfl rfl,zG rfl (by rw[mH];omega),zM,zD,zG rfl zom,zA⟩,⟨zH zdd rfl (x5 zom zom) (yZ fun _=>⟨rfl,zsm⟩) rfl,zA⟩,zO⟩
    rw[jX _ zom,wV,wV,xX];have:=C7 (pw i) s;simp only[Int.toNat_natCast];rw[<- hs]at this ⊢;simp only[xH]at this ⊢;simp only[wC c (pw i)]at hv;omega
   .have h1:=wF (show i<A.length by omega) ha
    have h2:=Ba (show B.length<=i by omega);obtain⟨s,hs⟩:∃ s,c+lb A i+lb B i=s:=⟨_,rfl⟩;refine sK (sts ?_);refine yB i zom zom (sts ?_)
    refine⟨(i+1,O.set i ((s%4294967296:Nat):Int),s/4294967296),⟨⟨zom,by simp[hO],rV hok i zom,zom,?_⟩,zbo⟩,[0],[],[],[],ttt,
     ⟨zM,zM,zI zdd rfl rfl,zG rfl (by rw[mH];omega),zM,zD,zG rfl zom,zA⟩,⟨zH zdd rfl (x5 zom zom) (yZ fun _=>⟨rfl,zsm⟩) rfl,zA⟩,zO⟩
    rw[jX _ zom,wV,wV,xX];have:=C7 (pw i) s;simp only[Int.toNat_natCast];rw[<- hs]at this ⊢;simp only[xH]at this ⊢;simp only[wC c (pw i)]at hv;omega
   .have hi':i=A.length:=zom
    refine yB i yE zom (sts ?_)
    have hn:nv (O.set i (c:Int))=N:=by
     rw[<- vU (show(O.set i (c:Int)).length<=i+1 by simp;omega),jX _ zom,Int.toNat_natCast,<- hN,<- vU (a:=A) (k:=i) zom,<- vU (a:=B) (k:=i) zom,<- hv,wC]
    have ct:=sQ (O.set i (c:Int)) (rV hok i zom) yE;rw[hn]at ct;refine zT ct (yL (xP rfl (x5 yE rfl) yE (fun x=>qD x)) rfl) (sts ?_);exact yD
def iZ(a b:Nat):PV:=if a<b then .tup [.imm [],.int .i64 2] else .tup [zQ (zJ (a-b)),.int .i64 0]
def XR(xs ys:List Int)(hx:okN xs)(hy:okN ys)(hl:xs.length<2147483647)(hl2:ys.length<2147483647):Fn 221 [zQ xs,zQ ys] (.data (iZ (nv xs) (nv ys))):=by
 have ct1:=sQ xs hx zom;have ct2:=sQ ys hy zom;obtain⟨A,eA⟩:∃ A,zJ (nv xs)=A:=⟨_,rfl⟩;obtain⟨B,eB⟩:∃ B,zJ (nv ys)=B:=⟨_,rfl⟩;have ha:okN A:=eA ▸ yP _;have hb:okN B:=eB ▸ yP _;have ca:lQ A:=eA ▸ cA _;have cb:lQ B:=eB ▸ cA _;have ea:nv A=nv xs:=by rw[<- eA,yR]
 have eb:nv B=nv ys:=by rw[<- eB,yR]
 have h1:A.length<=xs.length:=eA ▸ uC hx;have h2:B.length<=ys.length:=eB ▸ uC hy;have cc:=DU A B ha hb zom zom;rw[eA]at ct1;rw[eB]at ct2;rw[<- ea,<- eb];obtain⟨c,hc⟩:∃ c,vD (nv A) (nv B)=c:=⟨_,rfl⟩
 have hcv:(c<0↔nv A<nv B):=by
  rw[<- hc];unfold vD
  split
  .omega
  .split<;>omega
 rw[hc]at cc;refine fnV (mkO func221 ntmps221 results221) ?_;refine cvd ct1 ?_;refine cvd ct2 ?_;refine zT cc rfl ?_
 refine gob ?_ ?_<;>intro h
 .refine zL rfl ?_
  unfold iZ;rw[zE (hcv.1 h)]
 .have hle:nv B<=nv A:=by have:=mt hcv.2 h;omega
  have hlen:B.length<=A.length:=Cb fun hlt=>by have:=KN ca cb hlt;omega
  refine xG hT (fun((i,O,w):Nat×List Int×Nat)=>[(0,zQ A),(1,zQ B),(6,.own 0 0 A.length),(7,.int .u64 w),(22,zQ A),(23,.int .i64 A.length),(24,.int .i64 i)]) (fun(_,O,_)=>[(0,⟨O.map (.int .u32),1,false⟩)]) [] 1
   (fun(i,O,w)=>i<=A.length/\O.length=A.length/\okN O/\w<2/\nk A i+w*pw i=nk O i+nk B i) (fun(i,_,_)=>A.length-i) (0,List.replicate A.length 0,0) ⟨zsm,zsm,dY _,zsm,by simp[rW]⟩ zdd zsm ?_ ?_
  .exact⟨[14],[],[],[],ttt,⟨zM,zM,zI zdd rfl zsm,zD,zM,zG rfl zsm,zD,zA⟩,⟨zH zdd rfl zsm (yZ fun _=>⟨rfl,zsm⟩) rfl,zA⟩,zO⟩
  .intro⟨i,O,w⟩ ⟨hi,hO,hok,hw,hv⟩
   have hAi:i<A.length->0<=A[i]! /\ A[i]! < 4294967296:=fun h=>nJ ha h
   have hBi:i<B.length->0<=B[i]! /\ B[i]! < 4294967296:=fun h=>nJ hb h
   refine gob ?_ ?_<;>intro h
   rotate_left
   .have hi':i=A.length:=zom
    have hA:=vU (a:=A) (k:=i) zom;have hB:=vU (a:=B) (k:=i) zom;have hOv:=vU (a:=O) (k:=i) zom;have hOl:=sM hok;rw[hA,hB,hOv]at hv;rw[hO,<- hi']at hOl
    have hw0:w=0:=by
     rcases(show w=0\/w=1 by omega) with e|e
     .exact e
     .subst e;rw[Ch]at hv;omega
    subst hw0;have hn:nv O=nv A-nv B:=zom
    have ct:=sQ O hok zom;rw[hn]at ct;refine zT ct (yL (xP rfl rfl zom (fun x=>qD x)) rfl) (sts ?_);refine zL rfl ?_;unfold iZ;rw[zB zom]
   have h1:=wF (show i<A.length by omega) ha;have ha1:=hAi zom;refine dX ?_
   refine gob ?_ ?_<;>intro h
   .have h2:=wF (show i<B.length by omega) hb
    have hb1:=hBi zom;refine dX (sts ?_);refine sK (sts ?_);obtain⟨X,hX⟩:∃ X:Int,((A[i]!-↑w)%18446744073709551616-B[i]!)%18446744073709551616=X:=⟨_,rfl⟩;refine yB i zom zom (sts ?_);obtain⟨o,w',ho,hw',hs,hw2⟩:∃ o w':Nat,(o:Int)=X%4294967296/\(w':Int)=X/9223372036854775808/\lb A i+4294967296*w'=o+w+lb B i/\w'<2:=⟨(X%4294967296).toNat,(X/9223372036854775808).toNat,zom,zom,zom,zom⟩;have hX':((A[i]!-↑w)%18446744073709551616-B[i]!)%18446744073709551616=X:=hX
    refine⟨(i+1,O.set i (o:Int),w'),⟨⟨zom,by simp[hO],rV hok i zom,hw2,?_⟩,zbo⟩,[0],[],[],[],ttt,
     ⟨zM,zM,zI zdd rfl rfl,zG rfl (by rw[HL,hX];omega),zM,zD,zG rfl zom,zA⟩,⟨zH zdd rfl (x5 zom zom) (yZ fun _=>⟨rfl,zsm⟩) rfl,zA⟩,zO⟩
    rw[jX _ zom,wV,wV,xX,Int.toNat_natCast];have hp:=zV (fun t=>pw i*t) hs;simp only[xH]at hp;rw[pO (pw i)]at hp;rw[pO w',wC w' (pw i)];rw[wC w (pw i)]at hv;omega
   .have h2:=Ba (show B.length<=i by omega)
    refine sK (sts ?_);obtain⟨X,hX⟩:∃ X:Int,(A[i]!-↑w)%18446744073709551616=X:=⟨_,rfl⟩;refine yB i zom zom (sts ?_);obtain⟨o,w',ho,hw',hs,hw2⟩:∃ o w':Nat,(o:Int)=X%4294967296/\(w':Int)=X/9223372036854775808/\lb A i+4294967296*w'=o+w+lb B i/\w'<2:=⟨(X%4294967296).toNat,(X/9223372036854775808).toNat,zom,zom,zom,zom⟩;have hX':(A[i]!-↑w)%18446744073709551616=X:=hX
    refine⟨(i+1,O.set i (o:Int),w'),⟨⟨zom,by simp[hO],rV hok i zom,hw2,?_⟩,zbo⟩,[0],[],[],[],ttt,
     ⟨zM,zM,zI zdd rfl rfl,zG rfl (by rw[HL,hX];omega),zM,zD,zG rfl zom,zA⟩,⟨zH zdd rfl (x5 zom zom) (yZ fun _=>⟨rfl,zsm⟩) rfl,zA⟩,zO⟩
    rw[jX _ zom,wV,wV,xX,Int.toNat_natCast];have hp:=zV (fun t=>pw i*t) hs;simp only[xH]at hp;rw[pO (pw i)]at hp;rw[pO w',wC w' (pw i)];rw[wC w (pw i)]at hv;omega
def FC(xs ys:List Int)(hx:okN xs)(hy:okN ys)(hl:xs.length<1073741824)(hl2:ys.length<1073741824):Fn 169 [zQ xs,zQ ys] (.data (zQ (zJ (nv xs*nv ys)))):=by
 have ct1:=sQ xs hx zom;have ct2:=sQ ys hy zom;obtain⟨A,eA⟩:∃ A,zJ (nv xs)=A:=⟨_,rfl⟩;obtain⟨B,eB⟩:∃ B,zJ (nv ys)=B:=⟨_,rfl⟩;have ha:okN A:=eA ▸ yP _;have hb:okN B:=eB ▸ yP _;have ea:nv A=nv xs:=by rw[<- eA,yR]
 have eb:nv B=nv ys:=by rw[<- eB,yR]
 have h1:A.length<=xs.length:=eA ▸ uC hx;have h2:B.length<=ys.length:=eB ▸ uC hy;rw[eA]at ct1;rw[eB]at ct2;rw[<- ea,<- eb];clear eA eB ea eb hx hy;refine fnV (mkO func169 ntmps169 results169) ?_;refine cvd ct1 ?_;refine zT ct2 rfl ?_
 (refine gob ?_ ?_<;>intro h;rotate_left;refine gob ?_ ?_<;>intro h;rotate_right)
 .have:A=[]:=vZ.1 zom
  subst this;exact zL rfl (by simp[nv,d9])
 .have:B=[]:=vZ.1 zom
  subst this;exact zL rfl (by simp[nv,d9])
 .refine xG hT (fun((i,O):Nat×List Int)=>[(1,zQ B),(5,.own 0 0 (A.length+B.length)),(29,zQ A),(30,.int .i64 A.length),(31,.int .i64 i)]) (fun(_,O)=>[(0,⟨O.map (.int .u32),1,false⟩)]) [] 1
   (fun(i,O)=>i<=A.length/\O.length=A.length+B.length/\okN O/\nv O=nk A i*nv B/\∀ j,i+B.length<=j->lb O j=0) (fun(i,_)=>A.length-i) (0,List.replicate (A.length+B.length) 0) ⟨zsm,zsm,dY _,by simp[HQ,rW],fun j _=>KO _ j⟩ zdd zsm ?_ ?_
  .exact⟨[20],[],[],[],ttt,⟨zM,zI zdd rfl qK,zM,zG rfl zsm,zD,zA⟩,⟨zH zdd rfl (aM (f:=PV.int .u32) (x:=0) qK) (yZ fun _=>⟨rfl,zsm⟩) rfl,zA⟩,zO⟩
  .intro⟨i,O⟩ ⟨hi,hO,hok,hv,hz⟩
   have hAi:i<A.length->0<=A[i]! /\ A[i]! < 4294967296:=fun h=>nJ ha h
   refine gob ?_ ?_<;>intro h
   .have h1:=wF (show i<A.length by omega) ha
    have ha1:=hAi zom
    refine xG hT (fun((k,P,c):Nat×List Int×Nat)=>[(1,zQ B),(5,.own 0 0 (A.length+B.length)),(6,.int .i64 i),(7,.int .u32 A[i]!),(8,.int .u64 c),(29,zQ A),(30,.int .i64 A.length),(31,.int .i64 i),(36,zQ B),(37,.int .i64 B.length),(38,.int .i64 k)]) (fun(_,P,_)=>[(0,⟨P.map (.int .u32),1,false⟩)]) [] 1
     (fun(k,P,c)=>k<=B.length/\P.length=A.length+B.length/\okN P/\c<4294967296/\nv P+c*pw (i+k)=nv O+pw i*(lb A i*nk B k)/\∀ j,i+B.length<=j->lb P j=0) (fun(k,_,_)=>B.length-k) (0,O,0) ⟨zsm,hO,hok,zsm,by simp[rW],hz⟩ zdd zsm ?_ ?_
    .exact⟨[0],[],[],[],ttt,⟨zM,zI zdd rfl rfl,zD,zD,zD,zM,zD,zD,zM,zG rfl zsm,zD,zA⟩,⟨zH zdd rfl rfl (yZ fun _=>⟨rfl,zsm⟩) rfl,zA⟩,zO⟩
    .intro⟨k,P,c⟩ ⟨hk,hP,hokP,hc,hvP,hzP⟩
     have hBk:k<B.length->0<=B[k]! /\ B[k]! < 4294967296:=fun h=>nJ hb h
     have hPk:k<B.length->0<=P[i+k]! /\ P[i+k]! < 4294967296:=fun h=>nJ hokP zom
     have hpr:k<B.length->0<=A[i]!*B[k]! /\ A[i]!*B[k]! <= 18446744065119617025:=fun h=>Vo ha1 (hBk h)
     refine gob ?_ ?_<;>intro h
     .refine yB (i+k) zom zom ?_
      have hB1:=hBk zom;have hP1:=hPk zom;have hp1:=hpr zom;have h2:=wF (show k<B.length by omega) hb;have h3:=wF (show i+k<P.length by omega) hokP;obtain⟨s,hs⟩:∃ s,c+(lb A i*lb B k+lb P (i+k))=s:=⟨_,rfl⟩
      have hsI:(s:Int)=↑c+(A[i]!*B[k]! + P[i+k]!):=by
       rw[<- hs];simp only[Int.natCast_add,Int.natCast_mul,h1,h2,h3]
      refine sts ?_;refine sK (sts ?_);refine yB (i+k) zom zom (sts ?_)
      refine⟨(k+1,P.set (i+k) ((s%4294967296:Nat):Int),s/4294967296),⟨⟨zom,by simp[hP],rV hokP _ zom,zom,?_,fun j hj=>?_⟩,zbo⟩,[0],[],[],[],ttt,
       ⟨zM,zI zdd rfl rfl,zD,zD,zG rfl (by rw[mH,<- hsI];omega),zM,zD,zD,zM,zD,zG rfl zom,zA⟩,⟨zH zdd rfl (x5 zom (by rw[<- hsI];omega)) (yZ fun _=>⟨rfl,zsm⟩) rfl,zA⟩,zO⟩
      .have e1:=Bd (a:=P) (j:=i+k) ((s%4294967296:Nat):Int) zom
       have e2:=C7 (pw (i+k)) s;rw[Int.toNat_natCast]at e1;rw[wV,show i+(k+1)=i+k+1 by omega,xX];rw[<- hs]at e1 e2 ⊢;simp only[xH,Ei]at e1 e2 hvP ⊢;simp only[wC,pO,vF]at e1 e2 hvP ⊢;omega
      .rw[KP zom];exact hzP j hj
     .have hk':k=B.length:=zom
      refine yB (i+B.length) qK zom (sts ?_)
      refine⟨(i+1,P.set (i+B.length) (c:Int)),⟨⟨zom,by simp[hP],rV hokP _ zom,?_,fun j hj=>?_⟩,zbo⟩,[0],[],[],[],ttt,
       ⟨zM,zI zdd rfl rfl,zM,zD,zG rfl zom,zA⟩,⟨zH zdd rfl (x5 qK rfl) (yZ fun _=>⟨rfl,zsm⟩) rfl,zA⟩,zO⟩
      .have e1:=Bd (a:=P) (j:=i+B.length) (c:Int) zom
       rw[hzP _ (zX _),Int.toNat_natCast]at e1;rw[hk',vU (a:=B) (zX _)]at hvP;rw[wV,w6,<- hv,vF,<- hvP,wC c];omega
      .rw[KP zom];exact hzP j zom
   .have hi':i=A.length:=zom
    rw[hi',vU (a:=A) (zX _)]at hv;have ct:=sQ O hok zom;rw[hv]at ct;refine zT ct (yL (xP rfl rfl zom (fun x=>qD x)) rfl) (sts ?_);exact yD
set_option maxRecDepth 100000 in
def XS(n:Nat)(h:n<4294967296):Fn 234 [.int .u32 n] (.data (.int .i64 (bl n))):=by
 refine yJ zU hT (mkO func234 ntmps234 results234) zsm ?_;have e16:(n:Int).fdiv (vM .u32 16)=((n/65536:Nat):Int):=by rw[HX (j:=16) rfl];omega
 have e8:(n:Int).fdiv (vM .u32 8)=((n/256:Nat):Int):=by rw[HX (j:=8) rfl];omega
 have e24:((n/65536:Nat):Int).fdiv (vM .u32 8)=((n/65536/256:Nat):Int):=by rw[HX (j:=8) rfl];omega
 (refine gob ?_ ?_<;>intro h;refine gob ?_ ?_<;>intro h;rotate_left 2;refine gob ?_ ?_<;>intro h;rotate_right 2)
 .rw[e16]at *
  rw[e24]at *
  have hb:=(jY 8 (n/65536/256) zom zom).2.2;refine KW (sts ?_);refine KV x7 (n:=n/65536/256) zom zom (fun b hbt=>?_);refine sts ?_;refine zL rfl ?_;rw[Vt zom zom,KU zom zom,hbt]
  congr 1;omega
 .rw[e16]at *
  have hb:=(jY 8 (n/65536) zom zom).2.2;refine KW (sts ?_);refine KV x7 (n:=n/65536) zom zom (fun b hbt=>?_);refine sts ?_;refine zL rfl ?_;rw[Vt zom zom,hbt]
  congr 1;omega
 .rw[e8]at *
  have hb:=(jY 8 (n/256) zom zom).2.2;refine KW (sts ?_);refine KV x7 (n:=n/256) zom zom (fun b hbt=>?_);refine sts ?_;refine zL rfl ?_;rw[KU zom zom,hbt]
  congr 1;omega
 .have hb:=(jY 8 n zom zom).2.2
  refine KW (sts ?_);refine KV x7 (n:=n) zom zom (fun b hbt=>?_);refine sts ?_;refine zL rfl ?_;rw[hbt]
  congr 1;omega
def uQJ(xs:List Int)(d:Nat)(hx:okN xs)(hl:xs.length<2147483647)(hd:0<d/\d<4294967296):Fn 249 [zQ xs,.int .u32 d] (.data (.tup [zQ (zJ (nv xs/d)),zQ (zJ (nv xs%d))])):=by
 refine fnV (mkO func249 ntmps249 results249) ?_
 refine xG hT (fun((n,O,r):Nat×List Int×Nat)=>[(0,zQ xs),(1,.int .u32 d),(6,.own 0 0 xs.length),(7,.int .u64 r),(8,.int .i64 ((n:Int)-1))]) (fun(_,O,_)=>[(0,⟨O.map (.int .u32),1,false⟩)]) [] 1
  (fun(n,O,r)=>n<=xs.length/\O.length=xs.length/\okN O/\r<d/\nt xs n=nt O n*d+r) (fun(n,_,_)=>n) (xs.length,List.replicate xs.length 0,0) ⟨zsm,zsm,dY _,hd.1,by rw[iT (zX _),iT zsm];simp⟩ zdd zsm ?_ ?_
 .exact⟨[4],[],[],[],ttt,⟨zM,zD,zI zdd rfl qK,zD,zG rfl zsm,zA⟩,⟨zH zdd rfl (aM (f:=PV.int .u32) (x:=0) qK) (yZ fun _=>⟨rfl,zsm⟩) rfl,zA⟩,zO⟩
 .intro⟨n,O,r⟩ ⟨hn,hO,hok,hr,hv⟩
  have hXi:0<n->0<=xs[n-1]! /\ xs[n-1]! < 4294967296:=fun h=>nJ hx zom
  refine gob ?_ ?_<;>intro h
  .have hx1:=hXi zom
   have h1:=wF (show n-1<xs.length by omega) hx;refine lD (by rw[aK];omega) ?_;refine sts ?_;refine wP (j:=n-1) zom zom (sts ?_);obtain⟨t,ht⟩:∃ t:Nat,(t:Int)=tF .or .u64 (↑r*vM .u64 32) xs[n-1]! := ⟨r*4294967296+lb xs (n-1),by rw[KQ zom hx1];omega⟩;have ht2:t=r*4294967296+lb xs (n-1):=by rw[KQ zom hx1]at ht;omega
   have hdiv:(t:Int).tdiv d=((t/d:Nat):Int):=by rw[D9 zom];rfl
   have hmod:(t:Int).tmod d=((t%d:Nat):Int):=by rw[D8 zom];rfl
   have hq:t/d<4294967296:=M9 (by
    have:d*4294967296=d*4294967296:=rfl;have h2:(r+1)*4294967296<=d*4294967296:=vK _ zom;have:=vA hx (n-1);rw[w6]at h2
    omega)
   have hqm:=EH t d;have hml:=nZ t hd.1;obtain⟨q,eq⟩:∃ q,t/d=q:=⟨_,rfl⟩;obtain⟨m,em⟩:∃ m,t%d=m:=⟨_,rfl⟩;rw[eq]at hdiv hq hqm;rw[em]at hmod hqm hml;rw[<- ht];refine sts ?_;rw[hdiv];refine yB (n-1) zom zom (sts ?_)
   refine⟨(n-1,O.set (n-1) (q:Int),m),⟨⟨zom,by simp[hO],rV hok _ zom,hml,?_⟩,by show n-1<n;omega⟩,[0],[],[],[],ttt,
    ⟨zM,zD,zI zdd rfl rfl,zG rfl hmod,zG rfl zom,zA⟩,⟨zH zdd rfl (x5 zom rfl) (yZ fun _=>⟨rfl,zsm⟩) rfl,zA⟩,zO⟩
   have h0:n-1+1=n:=zom
   have e1:=nK hx (n-1);have e2:=nK (rV hok (n-1) (x:=(q:Int)) zom) (n-1);have e3:nt (O.set (n-1) (q:Int)) (n-1+1)=nt O (n-1+1):=by unfold nt;rw[CY zom]
   have e4:lb (O.set (n-1) (q:Int)) (n-1)=q:=by simp[lb,List.getD,show n-1<O.length by omega]
   rw[e1,e2,e3,e4,h0,hv];simp only[xH,w6,vF];rw[wC q d];omega
  .have h0:n=0:=zom
   subst h0;rw[Bb,Bb]at hv;have hq:nv O=nv xs/d:=by rw[hv,bX,Nat.add_mul_div_right _ _ hd.1,Cc hr];omega
   have hr':r=nv xs%d:=by rw[hv,bX,Mr,jQ hr]
   have ct:=sQ O hok zom;rw[hq]at ct;refine zT ct (yL (xP rfl rfl zom (fun x=>qD x)) rfl) (sts ?_);refine cvd (K6 r zom) ?_;rw[<- hr'];exact yD
def fW(n:Nat):Int:=if n=0 then 0 else 32*((zJ n).length-1:Nat)+bl (lb (zJ n) ((zJ n).length-1))
def XT(n:Nat):fW n=0↔n=0:=by
 unfold fW
 split
 .simp[*]
 .rename_i h
  have hc:=cA n;have hne:zJ n≠[]:=fun e=>h (kS e)
  have hl:0<(zJ n).length:=CV.2 hne
  have hlast:lb (zJ n) ((zJ n).length-1)≠0:=by
   have h1:=hc.2.resolve_left hne;rw[JJ,wN zom]at h1;have h2:=hc.1 _ (wA (show(zJ n).length-1<(zJ n).length by omega));have h3:lb (zJ n) ((zJ n).length-1)=((zJ n)[(zJ n).length-1]).toNat:=by simp[lb,List.getD,show(zJ n).length-1<(zJ n).length by omega]
   intro e;rw[h3]at e;exact h1 (by congr 1;omega)
  have hb:=(jY 32 _ (by have:=vA hc.1 ((zJ n).length-1);omega) zom).1;have:bl (lb (zJ n) ((zJ n).length-1))≠0:=fun e=>by rw[e]at hb;omega
  constructor
  .intro e;omega
  .intro e;exact absurd e h
def XU(xs:List Int)(hx:okN xs)(hl:xs.length<2147483647):Fn 188 [zQ xs] (.data (.int .i64 (fW (nv xs)))):=by
 have h2:=uC hx;have hok:=yP (nv xs);refine fnV (mkO func188 ntmps188 results188) ?_;refine zT (sQ xs hx zom) rfl ?_
 refine gob ?_ ?_<;>intro h
 .refine zL rfl ?_
  have:zJ (nv xs)=[]:=vZ.1 zom;have:=kS this;unfold fW;rw[zE this]
 .refine wP (j:=(zJ (nv xs)).length-1) qK zom ?_
  refine sts ?_;have hg:=wF (show(zJ (nv xs)).length-1<(zJ (nv xs)).length by omega) hok;have hb:=(jY 32 (lb (zJ (nv xs)) ((zJ (nv xs)).length-1)) (by have:=vA hok ((zJ (nv xs)).length-1);omega) zom).2.2;rw[<- hg];refine zT (XS _ (vA hok _)) rfl (sts ?_);refine zL rfl ?_
  have hne:nv xs≠0:=fun e=>by
   have:(zJ (nv xs)).length=0:=by rw[e];rfl
   omega
  unfold fW;rw[zB hne]
  congr 1
  simp only[z6];omega
def XV(xs:List Int)(hx:okN xs)(hl:xs.length<2147483647):Fn 248 [zQ xs] (.data (if nv xs<18446744073709551616 then .tup [.int .u64 (nv xs),.bool true] else .tup [.int .u64 0,.bool false])):=by
 have h2:=uC hx;have ct:=sQ xs hx zom
 have hbig:2<(zJ (nv xs)).length↔¬ nv xs<18446744073709551616:=by
  constructor
  .intro h hlt
   have:=sW (n:=nv xs) (k:=2) hlt;omega
  .intro h
   refine Nat.lt_of_not_le fun hle=>h ?_
   have:=sM (yP (nv xs));rw[yR]at this;exact w9 this (qM hle)
 have hv:=yR (nv xs);have ha:=yP (nv xs);generalize nv xs=N at *
 generalize zJ N=A at *
 refine fnV (mkO func248 ntmps248 results248) ?_;refine zT ct rfl ?_
 refine gob ?_ ?_<;>intro h
 .rw[zB (hbig.1 zom)]
  exact yD
 .have hN:N<18446744073709551616:=by
   have:=mt hbig.2 zom;omega
  rw[zE hN];refine rU hT (fun i:Nat=>[(4,.int .u64 (nk A i)),(12,zQ A),(13,.int .i64 A.length),(14,.int .i64 i)]) (fun i=>i<=A.length) (fun i=>A.length-i) 0 (z8 _) ?_ ?_
  .exact⟨zG rfl (by simp[rW]),zM,zG rfl zsm,zD,zA⟩
  .intro i hi
   have hAi:i<A.length->0<=A[i]! /\ A[i]! < 4294967296:=fun h=>nJ ha h
   have hk1:nk A 1=lb A 0:=by rw[wV,rW,q8];omega
   refine gob ?_ ?_<;>intro h
   .have hA1:=hAi zom
    have hg:=wF (show i<A.length by omega) ha;rcases(show i=0\/i=1 by omega) with e|e
    .subst e
     have es:vM .u64 (32*((0:Nat):Int))=1:=by rw[Eh zom];rfl
     have eb:tF .or .u64 ((nk A 0:Nat):Int) (A[0]!*1)=((nk A 1:Nat):Int):=by
      have:=O9 (a:=lb A 0) (b:=0) (i:=0) zdd (by have:=vA ha 0;omega);rw[rW,hk1,<- hg];have e2:((2^0*lb A 0:Nat):Int)=(lb A 0:Int)*1:=zom
      rw[e2]at this;rw[this];omega
     rw[es];refine lD ?_ ?_
     .omega
     refine sts ?_;exact⟨1,⟨zom,zom⟩,zG rfl eb,zM,zD,zG rfl zom,zA⟩
    .subst e
     have es:(32*((1:Nat):Int))=32:=zom
     have hk:=vA ha 0
     have eb:tF .or .u64 ((nk A 1:Nat):Int) (A[1]!*vM .u64 32)=((nk A 2:Nat):Int):=by
      have hk2:nk A 2=nk A 1+4294967296*lb A 1:=by rw[wV A 1,xX,q8]
      rw[PD hA1 zom,hk2,<- hg];omega
     rw[es];refine lD ?_ ?_
     .rw[aK];omega
     refine sts ?_;exact⟨2,⟨zom,zom⟩,zG rfl eb,zM,zD,zG rfl zom,zA⟩
   .refine zL rfl ?_
    rw[vU (show A.length<=i by omega),hv]
def XW(xs:List Int)(k:Nat)(hx:okN xs)(hl:xs.length<2147483647)(hk:k<32):Fn 251 [zQ xs,.int .i64 k] (.fresh ((lS (xs.length+1) (nv xs*2^k)).map (.int .u32)) 1 false):=by
 have hp1:1<=2^k:=bY zdd;have hp2:2^k<=2^31:=bU zdd zom;have hsh:vM .u64 (k:Int)=((2^k:Nat):Int):=by rw[Eh zom];simp
 refine dV zU hT (mkO func251 ntmps251 results251) zsm (sts ?_)
 refine xG hT (fun((i,O,h):Nat×List Int×Nat)=>[(1,.int .i64 k),(5,.own 0 0 (xs.length+1)),(13,zQ xs),(14,.int .i64 xs.length),(15,.int .i64 i)]) (fun(_,O,_)=>[(0,⟨O.map (.int .u32),1,false⟩)]) [] 1
  (fun(i,O,h)=>i<=xs.length/\O.length=xs.length+1/\okN O/\nk O (i+1)=nk xs i*2^k/\lb O i=h/\h<2^k) (fun(i,_,_)=>xs.length-i) (0,List.replicate (xs.length+1) 0,0) ⟨zsm,zsm,dY _,by rw[rW,wV,rW,KO];simp,KO _ _,hp1⟩ zdd zsm ?_ ?_
 .exact⟨[4],[],[],[],ttt,⟨zD,zI zdd rfl qK,zM,zG rfl zsm,zD,zA⟩,⟨zH zdd rfl (aM (f:=PV.int .u32) (x:=0) qK) (yZ fun _=>⟨rfl,zsm⟩) rfl,zA⟩,zO⟩
 .intro⟨i,O,h⟩ ⟨hi,hO,hok,hv,hlb,hh⟩
  have hXi:i<xs.length->0<=xs[i]! /\ xs[i]! < 4294967296:=fun h=>nJ hx h
  refine gob ?_ ?_<;>intro h
  .have hx1:=hXi zom
   have hg:=wF (show i<xs.length by omega) hx;have hlt:=vA hx i;obtain⟨p,ep⟩:∃ p,lb xs i*2^k=p:=⟨_,rfl⟩;have hpI:xs[i]!*vM .u64 (k:Int)=(p:Int):=by rw[hsh,<- hg,<- ep];simp
   have hpb:p<9223372036854775808:=by
    have:lb xs i*2^k<=4294967295*2^31:=gW zom hp2;omega
   have hpd:p/4294967296<2^k:=by
    refine M9 ?_;have:(lb xs i+1)*2^k<=4294967296*2^k:=vK _ zom;rw[w6]at this;omega
   obtain⟨or1,or2⟩:=uSX (X:=lb xs i) hk hh;rw[ep]at or1 or2;rw[hpI];refine lD ?_ ?_
   .omega
   refine sts ?_;refine yB i zom zom (sts ?_);refine sK (sts ?_);refine yB i zom zom (sts ?_);have hOi:O[i]! = ((lb O i:Nat):Int):=(wF zom hok).symm;rw[<- hlb]at or1 or2;have hor:tF .or .u32 O[i]! ((p:Int)%4294967296)=((p%4294967296+lb O i:Nat):Int):=by rw[hOi,<- or1];rfl
   rw[mH];refine Gv (n:=(p:Int)/4294967296) ?_ ?_
   .omega
   refine sts ?_;refine Vr (i+1) zom zom zom (sts ?_)
   refine⟨(i+1,(O.set i ((p%4294967296+lb O i:Nat):Int)).set (i+1) ((p/4294967296:Nat):Int),p/4294967296),⟨⟨zom,by simp[hO],rV (rV hok _ zom) _ zom,?_,?_,hpd⟩,zbo⟩,[0],[],[],[],ttt,
    ⟨zD,zI zdd rfl rfl,zM,zD,zG rfl zom,zA⟩,⟨zH zdd rfl (by rw[x5 (j:=i) zom hor];exact x5 zom zom) (yZ fun _=>⟨rfl,zsm⟩) rfl,zA⟩,zO⟩
   .rw[jX _ yE,jX _ zom,wV,xX,Int.toNat_natCast,Int.toNat_natCast]
    rw[wV]at hv;have hc:=C7 (pw i) p;rw[w6,<- hv,vF (pw i),ep,<- hc,xH,wC (4294967296*pw i)];omega
   .simp[lb,List.getD,show i+1<O.length by omega];omega
  .have hi':i=xs.length:=zom
   refine dU rfl ?_ (by simp[HV]) rfl (BM (fun x=>qD x) _);rw[vU (show O.length<=i+1 by omega),vU (show xs.length<=i by omega)]at hv;rw[<- hv,<- hO,KR hok]
def uU7(xs:List Int)(k:Nat)(hx:okN xs)(hl:xs.length<2147483647)(hk:k<32):Fn 254 [zQ xs,.int .i64 k] (.data (.tup [zQ (zJ (nv xs/2^k)),.int .i64 0])):=by
 have ct:=sQ xs hx zom;have h2:=uC hx;have ha:=yP (nv xs);have hv0:=yR (nv xs);generalize nv xs=N at *
 have hnil:zJ N=[]->N=0:=kS;generalize zJ N=A at *
 have hq:(k:Int).tdiv 32=0:=by rw[D9 zom];omega
 have hm:(k:Int).tmod 32=k:=by rw[D8 zom];omega
 refine yJ zU hT (mkO func254 ntmps254 results254) zsm ?_
 refine gob ?_ ?_<;>intro h
 .omega
 refine zT ct rfl ?_
 refine gob ?_ ?_<;>intro h
 .have h0:A=[]:=vZ.1 (by rw[hq]at h;omega)
  have:=hnil h0;subst this;exact zL rfl (by simp[d9])
 .refine nH (l':=A) (by rw[hq];simp) ?_
  refine sts ?_
  refine xG hT (fun((i,O):Nat×List Int)=>[(0,zQ A),(1,.int .i64 k),(6,.own 0 0 A.length),(30,zQ A),(31,.int .i64 A.length),(32,.int .i64 i)]) (fun(_,O)=>[(0,⟨O.map (.int .u32),1,false⟩)]) [] 1
   (fun(i,O)=>i<=A.length/\O.length=A.length/\okN O/\nk O i+pw i*(nt A i/2^k)=N/2^k) (fun(i,_)=>A.length-i) (0,List.replicate A.length 0) ⟨zsm,zsm,dY _,by rw[rW,q8,Bb,hv0];omega⟩ zdd zsm ?_ ?_
  .exact⟨[23],[],[],[],ttt,⟨zM,zD,zI zdd rfl qK,zM,zG rfl zsm,zD,zA⟩,⟨zH zdd rfl (aM (f:=PV.int .u32) (x:=0) qK) (yZ fun _=>⟨rfl,zsm⟩) rfl,zA⟩,zO⟩
  .intro⟨i,O⟩ ⟨hi,hO,hok,hv⟩
   have hAi:i<A.length->0<=A[i]! /\ A[i]! < 4294967296:=fun h=>nJ ha h
   have hAi1:i+1<A.length->0<=A[i+1]! /\ A[i+1]! < 4294967296:=fun h=>nJ ha h
   have hst:nt A i/2^k=(lb A i+4294967296*lb A (i+1))/2^k%4294967296+4294967296*(nt A (i+1)/2^k):=by
    rw[nK ha i,nK ha (i+1)];exact uC2 hk _ _ _ (vA ha i)
   obtain⟨X,eX0⟩:∃ X,lb A i+4294967296*lb A (i+1)=X:=⟨_,rfl⟩;rw[eX0]at hst
   have efd:∀ Y:Int,Y=(X:Int)->Y.fdiv (vM .u64 (k:Int))=((X/2^k:Nat):Int):=fun Y hY=>by
    rw[hY,HX (j:=k) (by show min (k:Int).toNat 64=k;omega)]
    simp
   (refine gob ?_ ?_<;>intro h;refine gob ?_ ?_<;>intro h)
   .refine wP (j:=i+1) rfl zom ?_
    have hA1:=hAi zom;have hA2:=hAi1 zom;have hg1:=wF (show i<A.length by omega) ha;have hg2:=wF (show i+1<A.length by omega) ha;refine sts ?_;refine lD ?_ ?_
    .rw[aK];omega
    refine sts ?_;have eX:=efd (tF .or .u64 A[i]! (A[i+1]!*vM .u64 32)) (by rw[PD hA2 hA1];omega);rw[hm,eX];refine sK (sts ?_);refine yB i zom zom (sts ?_)
    refine⟨(i+1,O.set i ((X/2^k%4294967296:Nat):Int)),⟨⟨zom,by simp[hO],rV hok _ zom,?_⟩,zbo⟩,[0],[],[],[],ttt,
     ⟨zM,zD,zI zdd rfl rfl,zM,zD,zG rfl zom,zA⟩,⟨zH zdd rfl (x5 zom rfl) (yZ fun _=>⟨rfl,zsm⟩) rfl,zA⟩,zO⟩
    rw[jX _ zom,xX,Int.toNat_natCast,<- hv,hst,xH,wC 4294967296 (pw i),vF];omega
   .have hA1:=hAi zom
    have hg1:=wF (show i<A.length by omega) ha;have hg2:=Ba (show A.length<=i+1 by omega);have eX:=efd A[i]! zom;rw[hm,eX];refine sK (sts ?_);refine yB i zom zom (sts ?_)
    refine⟨(i+1,O.set i ((X/2^k%4294967296:Nat):Int)),⟨⟨zom,by simp[hO],rV hok _ zom,?_⟩,zbo⟩,[0],[],[],[],ttt,
     ⟨zM,zD,zI zdd rfl rfl,zM,zD,zG rfl zom,zA⟩,⟨zH zdd rfl (x5 zom rfl) (yZ fun _=>⟨rfl,zsm⟩) rfl,zA⟩,zO⟩
    rw[jX _ zom,xX,Int.toNat_natCast,<- hv,hst,xH,wC 4294967296 (pw i),vF];omega
   .have hi':i=A.length:=zom
    rw[iT (show A.length<=i by omega),Nat.zero_div,Nat.mul_zero,Nat.add_zero,vU (show O.length<=i by omega)]at hv;have ct2:=sQ O hok zom;rw[hv]at ct2;refine zT ct2 (yL (xP rfl rfl zom (fun x=>qD x)) rfl) (sts ?_);exact yD
variable {U:List Int}
abbrev eC(U O:List Int):List (Nat×Blk):=[(0,⟨U.map (.int .u32),1,false⟩),(1,⟨O.map (.int .u32),1,false⟩)]
def jC(U:List Int)(i n:Nat):List Int:=(U.drop i).take (n+1)
def QC  {i n:Nat}(h:i+n+1<=U.length):(jC U i n).length=n+1:=by simp[jC];omega
def QD  (h:okN U)(i n:Nat):okN (jC U i n):=Vl (uFE h i) _
def vV6  {i n j:Nat}(ho:okN U)(h:i+n+1<=U.length)(hj:j<=n):U[i+j]! = ((lb (jC U i n) j:Nat):Int):=by
 have h1:=wF (a:=jC U i n) (k:=j) (by rw[QC h];omega) (QD ho i n);rw[h1,zS (jC U i n) j (by rw[QC h];omega),zS U (i+j) zom];simp[jC]
def vSP(U O V:List Int)(i n m:Nat)(t:Tm)(K:PV->St->Prop)(hU:okN U)(hV:okN V)(hn:2<=n)(hVl:V.length=n)(hi:i+n+1<=U.length)(hUl:U.length<2147483648)(htop:2147483648<=lb V (n-1))
 (hlt:nv (jC U i n)<nv V*4294967296)
 (hK:∀ q t' nx',2<=nx'->nv (jC U i n)<(q+1)*nv V->q*nv V<=nv (jC U i n)+nv V->q<=4294967296->K (.int .u64 (q:Nat)) ⟨t',hv (eC U O),zv [],nx'⟩) :
 FnH prog G0 253 [.own 0 i (n+1),zQ V] K ⟨t,hv (eC U O),zv [],m+2⟩:=by
 have hest:=uUJ (QD hU i n) hV hn (QC hi) hVl htop hlt;have gU:∀ j,j<=n->U[i+j]! = ((lb (jC U i n) j:Nat):Int):=fun j hj=>vV6 hU hi hj
 have lU:=fun j=>vA (QD hU i n) j
 generalize jC U i n=P at *
 have lV:=fun j=>vA hV j
 have gV:∀ j,j<n->V[j]! = ((lb V j:Nat):Int):=fun j hj=>(wF zom hV).symm
 refine iR zU hT (mkO func253 ntmps253 results253) zsm ?_;have u1:=gU n zom;have u2:=gU (n-1) zom;have u3:=gU (n-2) zom;have w1:=gV (n-1) zom;have w2:=gV (n-2) zom;have b1:=lU n;have b2:=lU (n-1);have b3:=lU (n-2);have c1:=lV (n-1);have c2:=lV (n-2);generalize lb P n=U1 at *
 generalize lb P (n-1)=U2 at *
 generalize lb P (n-2)=U3 at *
 generalize lb V (n-1)=V1 at *
 generalize lb V (n-2)=V2 at *
 refine sts ?_;refine yB (i+n) (by first|omega|(simp only[z6];omega)) zom ?_;rw[u1];refine sts ?_;refine lD ?_ ?_
 .rw[aK];omega
 refine sts ?_;refine yB (i+(n-1)) (by first|omega|(simp only[z6];omega)) zom ?_;rw[u2];refine sts ?_;obtain⟨T,eT⟩:∃ T,U1*4294967296+U2=T:=⟨_,rfl⟩;have hT0:tF .or .u64 ((U1:Int)*vM .u64 32) (U2:Int)=(T:Int):=by rw[KQ zom zom];omega
 rw[hT0];rw[eT]at hest;refine sts ?_;refine wP (j:=n-1) (by first|omega|(simp only[z6];omega)) zom ?_;rw[w1];refine sts ?_;have hdm:=EH T V1;have hml:=nZ T (show V1 > 0 by omega);have eq0:(T:Int).tdiv (V1:Int)=((T/V1:Nat):Int):=(Int.ofNat_tdiv T V1).symm;have er0:(T:Int).tmod (V1:Int)=((T%V1:Nat):Int):=(Int.ofNat_tmod T V1).symm;have hq0l:T/V1<=T:=gS ..;rw[eq0];generalize T/V1=q0 at *
 generalize T%V1=r0 at *
 rw[wC]at hdm;have hin:=hest.init hdm.symm hml;refine lD zom (sts ?_);refine wP (j:=n-1) (by first|omega|(simp only[z6];omega)) zom ?_;rw[w1];refine sts ?_
 refine Oz hT (fun((q,r):Nat×Nat)=>[(0,.own 0 i (n+1)),(1,zQ V),(5,.int .i64 n),(7,.int .u64 q),(8,.int .u64 r)]) (fun _=>eC U O) [] (m+2)
  (fun(q,r)=>T=q*V1+r/\nv P<(q+1)*nv V/\q<=4294967297/\r<4294967296) (fun(q,_)=>q) (q0,r0) ⟨hdm.symm,hin.1,hin.2,zom⟩ zom zsm
  [] ?_ ?_ ?_ ?_
 .exact⟨zI zom rfl rfl,zM,zG rfl (by rw[z6,hVl]),zD,zG rfl er0,zA⟩
 .exact⟨zH zom rfl rfl (yZ fun _=>⟨rfl,zsm⟩) rfl,zH zom rfl rfl (yZ fun _=>⟨rfl,zsm⟩) rfl,zA⟩
 .simp[ren]
 intro⟨q,r⟩ ⟨i1,i2,i3,i4⟩
 have fin:∀ q' r' t' nx',2<=nx'->T=q'*V1+r'->nv P<(q'+1)*nv V->q'<=4294967296->q'*V2<=r'*4294967296+U3->K (.int .u64 (q':Nat)) ⟨t',hv (eC U O),zv [],nx'⟩ :=
  fun q' r' t' nx' h0 h1 h2 h3 h4=>hK q' t' nx' h0 h2 (hest.last h1 h3 h4) h3
 have dec:nv P<q*nv V->1<=q/\T=(q-1)*V1+(r+V1)/\nv P<(q-1+1)*nv V:=fun hd=>by
  have h1:1<=q:=by
   rcases q with _|q
   .rw[Ao]at hd;omega
   .omega
  have:q*V1=(q-1)*V1+V1:=by rw[<- Nat.succ_mul,show(q-1).succ=q by omega]
  exact⟨h1,zom,by rw[show q-1+1=q by omega];exact hd⟩
 refine gob ?_ ?_<;>intro h
 .have hq:=h
  obtain⟨d1,d2,d3⟩:=dec (hest.step i1 (zF zom));refine wP (j:=n-1) (by first|omega|(simp only[z6];omega)) zom ?_;rw[w1]
  refine gob ?_ ?_<;>intro h
  .rw[show(q:Int)-1=((q-1:Nat):Int) by omega]
   exact fin (q-1) (r+V1) _ _ zom d2 d3 zom (hest.great zom zom)
  .exact⟨(q-1,r+V1),[],⟨⟨d2,d3,zom,zom⟩,by show q-1<q;omega⟩,⟨zI zom rfl rfl,zM,zD,zG rfl zom,zG rfl zom,zA⟩,
    ⟨zH zom rfl rfl (yZ fun _=>⟨rfl,zsm⟩) rfl,zH zom rfl rfl (yZ fun _=>⟨rfl,zsm⟩) rfl,zA⟩,zO⟩
 .have hq:=h
  refine wP (j:=n-2) (by first|omega|(simp only[z6];omega)) zom ?_;rw[w2];have hqv:q*V2<18446744073709551616:=w9 (Nat.mul_lt_mul'' (show q<4294967296 by omega) c2) zdd;obtain⟨X,eX⟩:∃ X,q*V2=X:=⟨_,rfl⟩;have eqv:(q:Int)*(V2:Int)=(X:Int):=by rw[<- eX];simp
  rw[eX]at hqv;refine sts ?_;refine lD ?_ ?_
  .rw[aK];omega
  refine sts ?_;refine yB (i+(n-2)) (by first|omega|(simp only[z6];omega)) zom ?_;rw[u3];have hT1:tF .or .u64 ((r:Int)*vM .u64 32) (U3:Int)=((r*4294967296+U3:Nat):Int):=by rw[KQ zom zom];omega
  refine gob ?_ ?_<;>intro h
  .rw[hT1,eqv]at h
   obtain⟨d1,d2,d3⟩:=dec (hest.step i1 (zC zom));refine lD zom (sts ?_);refine wP (j:=n-1) (by first|omega|(simp only[z6];omega)) zom ?_;rw[w1]
   refine gob ?_ ?_<;>intro h
   .rw[show(q:Int)-1=((q-1:Nat):Int) by omega]
    exact fin (q-1) (r+V1) _ _ zom d2 d3 zom (hest.great zom zom)
   .exact⟨(q-1,r+V1),[],⟨⟨d2,d3,zom,zom⟩,by show q-1<q;omega⟩,⟨zI zom rfl rfl,zM,zD,zG rfl zom,zG rfl zom,zA⟩,
     ⟨zH zom rfl rfl (yZ fun _=>⟨rfl,zsm⟩) rfl,zH zom rfl rfl (yZ fun _=>⟨rfl,zsm⟩) rfl,zA⟩,zO⟩
  .rw[hT1,eqv]at h
   exact fin q r _ _ zom i1 i2 zom zom
variable {U:List Int}{k:Nat}{V U':List Int}{i q j c c' y:Nat}
def uGM   (h:U'.drop k=U.drop k):U'[k]! = U[k]! := by
 have h1:=zV (fun l=>l[0]?) h;simp only[pM,Nat.add_zero]at h1;simp only[List.getElem!_eq_getElem?_getD,h1]
def K7{a b:List Int}  (h:a.drop k=b.drop k):a.drop (k+1)=b.drop (k+1):=by
 have:=zV (List.drop 1) h
 simpa [List.drop_drop]using this
structure Red(U V U':List Int)(i q j c b:Nat):Prop where
 len:U'.length=U.length
 ok:okN U'
 lo:U'.take i=U.take i
 hi:U'.drop (i+j)=U.drop (i+j)
 cl:c<4294967296
 bl:b<2
 eq:nv U'+q*(pw i*nk V j)=nv U+pw (i+j)*(c+b)
def Red.start   (h:okN U):Red U V U i q 0 0 0:=⟨rfl,h,rfl,rfl,zom,zom,by rw[rW];omega⟩
def Red.step  {b lo b':Nat}(h:Red U V U' i q j c b)(hq:q<=4294967296)(hj:i+j<U.length)(hd:lb V j<4294967296)
 (h1:c+q*lb V j=c'*4294967296+lo) (h2:lo<4294967296) (h3:y+lo+b=lb U' (i+j)+4294967296*b') (h4:y<4294967296) (h5:b'<2):Red U V (U'.set (i+j) (y:Int)) i q (j+1) c' b':=by
 obtain⟨a1,a2,a3,a4,a5,a6,a7⟩:=h
 refine⟨by simp[a1],rV a2 _ zom,by rw[GH zom];exact a3,by
  rw[CY zom];exact K7 a4,?_,h5,?_⟩
 .have:q*lb V j<=4294967296*lb V j:=vK _ hq
  omega
 .have n1:=Bd (a:=U') (y:Int) (show i+j<U'.length by omega)
  rw[Int.toNat_natCast]at n1;rw[wV,<- uV,xX,xH (pw i),<- vF (pw i),<- Ei,xH q,pO q (pw (i+j))]
  have n2:pw (i+j)*(c+b)+pw (i+j)*y+pw (i+j)*(q*lb V j)=pw (i+j)*lb U' (i+j)+4294967296*pw (i+j)*(c'+b'):=by
   rw[<- xH,<- xH,wC 4294967296,vF,<- xH]
   congr 1
   omega
  omega
def Red.last  {b:Nat}(h:Red U V U' i q j c b)(hj:i+j<U.length)(y:Nat)(hy:y<4294967296) :
 (U'.set (i+j) (y:Int)).length=U.length/\okN (U'.set (i+j) (y:Int))/\(U'.set (i+j) (y:Int)).take i=U.take i/\(U'.set (i+j) (y:Int)).drop (i+j+1)=U.drop (i+j+1) /\
  nv (U'.set (i+j) (y:Int))+q*(pw i*nk V j)+pw (i+j)*lb U' (i+j)=nv U+pw (i+j)*(c+b)+pw (i+j)*y:=by
 obtain⟨a1,a2,a3,a4,a5,a6,a7⟩:=h
 refine⟨by simp[a1],rV a2 _ zom,by rw[GH zom];exact a3,by
  rw[CY zom];exact K7 a4,?_⟩
 have n1:=Bd (a:=U') (y:Int) (show i+j<U'.length by omega);rw[Int.toNat_natCast]at n1;omega
structure Bak(U V U':List Int)(i j c:Nat):Prop where
 len:U'.length=U.length
 ok:okN U'
 lo:U'.take i=U.take i
 hi:U'.drop (i+j)=U.drop (i+j)
 cl:c<2
 eq:nv U'+pw (i+j)*c=nv U+pw i*nk V j
def Bak.start   (h:okN U):Bak U V U i 0 0:=⟨rfl,h,rfl,rfl,zom,by rw[rW];omega⟩
def Bak.step   (h:Bak U V U' i j c)(hj:i+j<U.length)(hd:lb V j<4294967296)
 (h1:c+(lb U' (i+j)+lb V j)=c'*4294967296+y) (h2:y<4294967296) (hu:lb U' (i+j)<4294967296):Bak U V (U'.set (i+j) (y:Int)) i (j+1) c':=by
 obtain⟨a1,a2,a3,a4,a5,a7⟩:=h
 refine⟨by simp[a1],rV a2 _ zom,by rw[GH zom];exact a3,by
  rw[CY zom];exact K7 a4,zom,?_⟩
 have n1:=Bd (a:=U') (y:Int) (show i+j<U'.length by omega);rw[Int.toNat_natCast]at n1;rw[wV,<- uV,xX,xH (pw i),<- vF (pw i),<- Ei]
 have n2:pw (i+j)*c+pw (i+j)*lb U' (i+j)+pw (i+j)*lb V j=4294967296*pw (i+j)*c'+pw (i+j)*y:=by
  rw[<- xH,<- xH,wC 4294967296,vF,<- xH]
  congr 1
  omega
 omega
def XX  {W:Nat}(ht:U'.take i=U.take i)(h:nv U'+q*(pw i*W)=nv U):nt U' i+q*W=nt U i:=by
 have e1:=lK U' i;have e2:=lK U i;have e3:nk U' i=nk U i:=by unfold nk;rw[ht]
 have e4:pw i*(nt U' i+q*W)=pw i*nt U i:=by
  rw[xH,pO];omega
 exact Nat.eq_of_mul_eq_mul_left (BZ i) e4
structure OutTz(U U':List Int)(i n q W:Nat):Prop where
 len:U'.length=U.length
 ok:okN U'
 eq:nv U'+q*(pw i*W)=nv U
 lt:nt U' i<W
def vV8{U1:List Int}{n b:Nat}(hV:okN V)(hVl:V.length=n)(h:Red U V U1 i q n c b)(hn:i+n<U.length)(hq:nt U i<(q+1)*nv V)(hc:c+b<=lb U1 (i+n)) :
 OutTz U (U1.set (i+n) ((lb U1 (i+n)-c-b:Nat):Int)) i n q (nv V):=by
 obtain⟨l1,l2,l3,l4,l5⟩:=h.last hn (lb U1 (i+n)-c-b) (by have:=vA h.ok (i+n);omega);rw[vU zom]at l5
 have e:nv (U1.set (i+n) ((lb U1 (i+n)-c-b:Nat):Int))+q*(pw i*nv V)=nv U:=by
  have:pw (i+n)*(c+b)+pw (i+n)*(lb U1 (i+n)-c-b)=pw (i+n)*lb U1 (i+n):=by
   rw[<- xH];congr 1;omega
  omega
 refine⟨l1,l2,e,?_⟩;have:=XX l3 e;rw[w6]at hq;omega
def XY{X:List Int}  (h:okN X)(e:X.drop (k+1)=U.drop (k+1))(hz:nt U (k+1)=0):nv X<4294967296*pw k:=by
 have e1:=lK X (k+1);have e2:nt X (k+1)=0:=by unfold nt at hz ⊢;rw[e];exact hz
 have:=dZ h (k+1);rw[e2]at e1;rw[xX]at this;omega
def vR0{U1 U3:List Int}{n b c2:Nat}(hV:okN V)(hVl:V.length=n)(h:Red U V U1 i q n c b)(hn:i+n<U.length)(hz:nt U (i+n+1)=0)(hq:q*nv V<=nt U i+nv V)
 (hc:lb U1 (i+n)<c+b) (hy:y+c+b=lb U1 (i+n)+4294967296) (h3:Bak (U1.set (i+n) (y:Int)) V U3 i n c2) :
 lb U3 (i+n)=y/\1<=q/\y+c2=4294967296/\OutTz U (U3.set (i+n) ((0:Nat):Int)) i n (q-1) (nv V):=by
 obtain⟨l1,l2,l3,l4,l5⟩:=h.last hn y zom;obtain⟨b1,b2,b3,b4,b5,b6⟩:=h3;rw[vU zom]at l5 b6
 have hlb:lb U3 (i+n)=y:=by
  have e:=uGM b4;have g:=wF (a:=U3) (k:=i+n) zom b2;rw[e,zS _ _ (by rw[l1];exact hn),JP]at g;omega
 have s2:=XY l2 l4 hz;have sp:nv U=nk U i+pw i*nt U i:=lK U i;generalize U1.set (i+n) (y:Int)=U2 at *
 have e2:nv U2+q*(pw i*nv V)=nv U+pw (i+n)*4294967296:=by
  have:pw (i+n)*(c+b)+pw (i+n)*y=pw (i+n)*lb U1 (i+n)+pw (i+n)*4294967296:=by
   rw[<- xH,<- xH];congr 1;omega
  omega
 have hbig:nv U<q*(pw i*nv V):=zom
 have hq1:1<=q:=by
  rcases q with _|q
  .rw[Ao]at hbig;omega
  .omega
 have hqW:q*(pw i*nv V)<=pw i*nt U i+pw i*nv V:=by
  rw[pO,<- xH];exact sI _ hq
 have mk:∀ z:Nat,z<4294967296->okN (U3.set (i+n) (z:Int))/\(U3.set (i+n) (z:Int)).drop (i+n+1)=U.drop (i+n+1)/\nv (U3.set (i+n) (z:Int))+pw (i+n)*y=nv U3+pw (i+n)*z:=fun z hz=>by
  refine⟨rV b2 _ zom,by rw[CY zom,K7 b4,l4],?_⟩;have:=Bd (a:=U3) (z:Int) (show i+n<U3.length by omega);rw[Int.toNat_natCast,hlb]at this;exact this
 have hyc:y+c2=4294967296:=by
  by_cases hlt:y+c2<4294967296
  .obtain⟨m1,m2,m3⟩:=mk (y+c2) hlt
   have:=XY m1 m2 hz;rw[xH]at m3;omega
  .omega
 obtain⟨m1,m2,m3⟩:=mk 0 zdd
 have e4:nv (U3.set (i+n) ((0:Nat):Int))+(q-1)*(pw i*nv V)=nv U:=by
  have:q*(pw i*nv V)=(q-1)*(pw i*nv V)+pw i*nv V:=by rw[<- Nat.succ_mul,show(q-1).succ=q by omega]
  have t:pw (i+n)*y+pw (i+n)*c2=pw (i+n)*4294967296:=by rw[<- xH,hyc]
  omega
 have ht:(U3.set (i+n) ((0:Nat):Int)).take i=U.take i:=by rw[GH zom,b3,l3]
 refine⟨hlb,hq1,hyc,by simp[b1,l1],m1,e4,?_⟩;have d:=XX ht e4;have g:pw i*nt U i<pw i*(q*nv V):=by rw[pO (pw i)];omega
 have g:=CO g;have:q*nv V=(q-1)*nv V+nv V:=by rw[<- Nat.succ_mul,show(q-1).succ=q by omega]
 omega
def XZ(U O:List Int)(els:List PV)(U':List Int)(e:els=U'.map (.int .u32)):hs (hv (eC U O)) 0 (some ⟨els,1,false⟩)=hv (eC U' O):=by
 subst e
 funext j
 unfold hs hv;cases Nat.beq j 0<;>rfl
def Xa{K:PV->St->Prop}{v v':PV}{t:Tm}{h h':Hp}{z:Fz}{nx:Nat}(ev:v'=v)(eh:h'=h)(k:K v ⟨t,h,z,nx⟩):K v' ⟨t,h',z,nx⟩:=by subst ev eh;exact k
def Xb{u lo b:Nat}(hu:u<4294967296)(hl:lo<4294967296)(hb:b<2):∃ x:Nat,(((u:Int)-(lo:Int))%18446744073709551616-(b:Int))%18446744073709551616=(x:Int) /\
 (x%4294967296)+lo+b=u+4294967296*(x/9223372036854775808)/\x<18446744073709551616/\(x/9223372036854775808=0->x=u-lo-b/\lo+b<=u)/\(x/9223372036854775808≠0->u<lo+b):=by
 by_cases h:lo+b<=u
 .exact⟨u-lo-b,zom,zom,zom,zom,zom⟩
 .exact⟨u+18446744073709551616-lo-b,zom,zom,zom,zom,zom⟩
def uFU(U O V:List Int)(i n q m:Nat)(t:Tm)(K:PV->St->Prop)(hU:okN U)(hV:okN V)(hn:2<=n)(hVl:V.length=n)(hi:i+n+1<=U.length)(hUl:U.length<2147483648)
 (hz:nt U (i+n+1)=0) (hq1:nt U i<(q+1)*nv V) (hq2:q*nv V<=nt U i+nv V) (hq3:q<=4294967296)
 (hK:∀ (r:Nat) U' t' nx',2<=nx'->r<=q->q<=r+1->OutTz U U' i n r (nv V)->K (.int .u32 (((r:Nat):Int)%4294967296)) ⟨t',hv (eC U' O),zv [],nx'⟩) :
 FnH prog G0 252 [.own 0 i (n+1),zQ V,.int .u64 q] K ⟨t,hv (eC U O),zv [],m+2⟩:=by
 have lV:=fun j=>vA hV j
 have gV:∀ j,j<n->V[j]! = ((lb V j:Nat):Int):=fun j hj=>(wF zom hV).symm
 refine iR zU hT (mkO func252 ntmps252 results252) zsm (sts ?_)
 refine Oz hT (fun((j,U',c,b):Nat×List Int×Nat×Nat)=>[(0,.own 0 i (n+1)),(1,zQ V),(2,.int .u64 q),(7,.int .u64 c),(8,.int .u64 b),(15,zQ V),(16,.int .i64 n),(17,.int .i64 j)]) (fun(_,U',_,_)=>eC U' O) [] (m+2)
  (fun(j,U',c,b)=>j<=n/\Red U V U' i q j c b) (fun(j,_,_,_)=>n-j) (0,U,0,0) ⟨zom,Red.start hU⟩ zom zsm
  [] ?_ ?_ ?_ ?_
 .exact⟨zI zom rfl rfl,zM,zD,zD,zD,zM,zG rfl (by rw[z6,hVl]),zD,zA⟩
 .exact⟨zH zom rfl rfl (yZ fun _=>⟨rfl,zsm⟩) rfl,zH zom rfl rfl (yZ fun _=>⟨rfl,zsm⟩) rfl,zA⟩
 .simp[ren]
 intro⟨j,U',c,b⟩ ⟨hj,hr⟩;have hl:=hr.len;have hcl:=hr.cl;have hbl:=hr.bl;have lU:=fun j=>vA hr.ok j
 have gU:∀ j,j<U.length->U'[j]! = ((lb U' j:Nat):Int):=fun j hj=>(wF zom hr.ok).symm
 refine gob ?_ ?_<;>intro h
 .have hjn:j<n:=zom
  rw[gV j hjn];have hd:=lV j;have hst:=fun c' lo b' y=>Red.step (c':=c') (lo:=lo) (b':=b') (y:=y) hr hq3 zom hd
  generalize lb V j=d at *
  have hu:=lU (i+j);have gu:=gU (i+j) zom;have hX:q*d<=18446744069414584320:=wS (gW hq3 (show d<=4294967295 by omega)) zdd;obtain⟨X,eX⟩:∃ X,q*d=X:=⟨_,rfl⟩;have eqd:(q:Int)*(d:Int)=(X:Int):=by rw[<- eX];simp
  rw[eX]at hX hst;refine sts ?_;refine yB (i+j) (by first|omega|(simp only[z6];omega)) zom ?_;rw[gu,eqd];generalize lb U' (i+j)=u at *
  obtain⟨c',lo,e1,e2⟩:∃ c' lo,c+X=c'*4294967296+lo/\lo<4294967296:=⟨(c+X)/4294967296,(c+X)%4294967296,zom,zom⟩;refine sts ?_;refine sK ?_;rw[show((c:Int)+(X:Int))%4294967296=(lo:Int) by omega];refine sts ?_;refine dX (sts ?_);refine dX ?_;obtain⟨x,hx,hx2⟩:=Xb hu e2 hbl;rw[hx];refine sts ?_;refine sK (sts ?_);refine yB (i+j) (by first|omega|(simp only[z6];omega)) zom ?_;refine sts ?_;obtain⟨hx2,hx3,_⟩:=hx2
  exact⟨(j+1,U'.set (i+j) ((x%4294967296:Nat):Int),c',x/9223372036854775808),[],⟨⟨hjn,hst c' lo _ _ e1 e2 hx2 zom zom⟩,zbo⟩,
   ⟨zI zom rfl rfl,zM,zD,zG rfl (by rw[mH];omega),zG rfl (by rw[HL];omega),zM,zD,zG rfl zom,zA⟩,
   ⟨zH zom rfl (x5 zom zom) (yZ fun _=>⟨rfl,zsm⟩) rfl,zH zom rfl rfl (yZ fun _=>⟨rfl,zsm⟩) rfl,zA⟩,zO⟩
 .obtain rfl:j=n:=zom
  refine yB (i+j) (by first|omega|(simp only[z6];omega)) zom ?_;have hu:=lU (i+j);rw[gU (i+j) zom];refine sts ?_;refine dX (sts ?_);refine dX ?_;have o1:=vV8 hV hVl hr zom hq1;have o2:=fun c2 y U3=>vR0 (c2:=c2) (y:=y) (U3:=U3) hV hVl hr zom hz hq2
  obtain⟨x,hx,hx2,hx3,hx4,hx5⟩:=Xb hu hcl hbl;rw[hx];generalize lb U' (i+j)=u at *
  refine sts ?_;refine sK (sts ?_);refine yB (i+j) (by first|omega|(simp only[z6];omega)) zom ?_
  refine gob ?_ ?_<;>intro h
  .rw[HL]at h
   obtain⟨hx6,hx7⟩:=hx4 zom;refine sK (sts ?_);exact Xa rfl (XZ U' O _ (U'.set (i+j) ((x%4294967296:Nat):Int)) (x5 (by first|omega|(simp only[z6];omega)) zom)) (hK q _ _ _ zom zom zom ((by rw[show u-c-b=x%4294967296 by omega]at o1;exact o1 zom)))
  .rw[HL]at h
   have hx6:=hx5 zom;have o3:=fun c2 U3=>o2 c2 (x%4294967296) U3 zom zom
   obtain⟨l1,l2,l3,l4,l5⟩:=hr.last zom (x%4294967296) zom
   refine Oz hT (fun((k,U3,c):Nat×List Int×Nat)=>[(0,.own 0 i (j+1)),(1,zQ V),(2,.int .u64 q),(7,.int .u64 c),(70,zQ V),(71,.int .i64 j),(72,.int .i64 k)]) (fun(_,U3,_)=>eC U3 O) [] (m+2)
    (fun(k,U3,c)=>k<=j/\Bak (U'.set (i+j) ((x%4294967296:Nat):Int)) V U3 i k c) (fun(k,_,_)=>j-k) (0,U'.set (i+j) ((x%4294967296:Nat):Int),0) ⟨zom,Bak.start l2⟩ zom zsm
    [] ?_ ?_ ?_ ?_
   .exact⟨zI zom rfl rfl,zM,zD,zD,zM,zG rfl (by rw[z6,hVl]),zD,zA⟩
   .exact⟨zH zom rfl (x5 (by first|omega|(simp only[z6];omega)) zom) (yZ fun _=>⟨rfl,zsm⟩) rfl,zH zom rfl rfl (yZ fun _=>⟨rfl,zsm⟩) rfl,zA⟩
   .simp[ren]
   intro⟨k,U3,c3⟩ ⟨hk,hb⟩;have hbll:=hb.len;have hbl2:=hb.cl;have lU3:=fun j=>vA hb.ok j
   have gU3:∀ j,j<U.length->U3[j]! = ((lb U3 j:Nat):Int):=fun j hj=>(wF zom hb.ok).symm
   have lVk:=lV k;have eV:k<j->V[k]! = ((lb V k:Nat):Int):=fun h=>gV k h
   refine gob ?_ ?_<;>intro h
   .have hkj:k<j:=zom
    refine yB (i+k) (by first|omega|(simp only[z6];omega)) zom ?_;have hst:=fun c' y=>Bak.step (c':=c') (y:=y) hb zom lVk
    have hu3:=lU3 (i+k);rw[gU3 (i+k) zom,eV hkj];generalize lb U3 (i+k)=u3 at *
    generalize lb V k=d at *
    refine sts ?_;refine sK (sts ?_);refine yB (i+k) (by first|omega|(simp only[z6];omega)) zom ?_;refine sts ?_;obtain⟨s,es⟩:∃ s,c3+(u3+d)=s:=⟨_,rfl⟩;rw[es]at hst
    exact⟨(k+1,U3.set (i+k) ((s%4294967296:Nat):Int),s/4294967296),[],⟨⟨hkj,hst _ _ zom zom hu3⟩,zbo⟩,
     ⟨zI zom rfl rfl,zM,zD,zG rfl (by rw[mH];omega),zM,zD,zG rfl zom,zA⟩,
     ⟨zH zom rfl (x5 zom zom) (yZ fun _=>⟨rfl,zsm⟩) rfl,zH zom rfl rfl (yZ fun _=>⟨rfl,zsm⟩) rfl,zA⟩,zO⟩
   .obtain rfl:k=j:=zom
    obtain⟨p0,p1,p2,p3⟩:=o3 c3 U3 hb;refine yB (i+k) (by first|omega|(simp only[z6];omega)) zom ?_;rw[gU3 (i+k) zom];refine sts ?_;refine sK (sts ?_);refine yB (i+k) (by first|omega|(simp only[z6];omega)) zom ?_;refine sts ?_;exact Xa (zV (PV.int .u32) zom) (XZ U3 O _ (U3.set (i+k) ((0:Nat):Int)) (x5 (by first|omega|(simp only[z6];omega)) (by rw[p0];omega))) (hK (q-1) _ _ _ zom zom zom p3)
variable {N W:Nat}{U:List Int}{i:Nat}{O:List Int}
def uVC(n:Nat)(h:n<4294967296):Fn 250 [.int .u32 n] (.data (.int .i64 (32-bl n))):=by
 have hb:=(jY 32 n h zdd).2.2;refine fnV (mkO func250 ntmps250 results250) ?_;refine cvd (XS n h) ?_;exact yD
def Xc(U:List Int)(j n:Nat):nt U j=nk (U.drop j) n+pw n*nt U (j+n):=by
 have:=lK (U.drop j) n;unfold nt at this ⊢;rw[List.drop_drop]at this;exact this
def uN3  {j n:Nat}(h:nt U j<W)(hW:W<pw n):nt U (j+n)=0:=by
 have:=Xc U j n;rcases EC (nt U (j+n)) with e|e
 .exact e
 .have:=sI (pw n) e
  omega
structure Dv(N W L n:Nat)(i:Nat)(U O:List Int):Prop where
 ul:U.length=L+1
 uo:okN U
 ol:O.length=L-n+1
 oo:okN O
 le:i<=L-n+1
 eq:nv U+W*(pw i*nt O i)=N
 lt:nt U i<W
def Dv.step{L n r:Nat}{U':List Int}(h:Dv N W L n (i+1) U O)(o:OutTz U U' i n r W)(hr:r<4294967296):Dv N W L n i U' (O.set i (r:Int)):=by
 obtain⟨a1,a2,a3,a4,a5,a6,a7⟩:=h;obtain⟨o1,o2,o3,o4⟩:=o;have hs:=rV a4 i (x:=(r:Int)) zom;refine⟨zom,o2,by simp[a3],hs,zom,?_,o4⟩;have e1:=nK hs i
 have e2:lb (O.set i (r:Int)) i=r:=by
  have:=wF (a:=O.set i (r:Int)) (k:=i) yE hs;rw[zS _ _ yE,JP]at this;omega
 have e3:nt (O.set i (r:Int)) (i+1)=nt O (i+1):=by unfold nt;rw[CY zom]
 rw[e1,e2,e3,xH (pw i),xH W];rw[xX,wC 4294967296,vF]at a6;have e4:W*(pw i*r)=r*(pw i*W):=by rw[wC W,wC (pw i) r,vF]
 omega
def Dv.done{L n:Nat}  (h:Dv N W L n 0 U O):nv O=N/W/\nv U=N%W:=by
 obtain⟨a1,a2,a3,a4,a5,a6,a7⟩:=h;rw[Bb]at a6 a7;rw[q8,Ch]at a6;have hW:0<W:=zom
 rw[<- a6,JQ _ _ hW,Mt,Cc a7,jQ a7];omega
def Dv.part{L n:Nat}  (h:Dv N W L n (i+1) U O)(hW:W<pw n):nt U (i+n+1)=0/\nv (jC U i n)=nt U i/\nt U i<W*4294967296:=by
 obtain⟨a1,a2,a3,a4,a5,a6,a7⟩:=h;have h1:=uN3 a7 hW;rw[show i+1+n=i+n+1 by omega]at h1;have h2:=Xc U i (n+1);rw[<- uV,h1]at h2;have h3:=nK a2 i;have h4:=vA a2 i;refine⟨h1,by unfold nk at h2;unfold jC;omega,zom⟩
def Dv.start{A:List Int}{n k:Nat}(ha:okN A)(hn:n<=A.length)(hn1:1<=n)(hk:k<=31)(hW:2147483648*pw (n-1)<=W) :
 Dv (nv A*2^k) W A.length n (A.length-n+1) (lS (A.length+1) (nv A*2^k)) (List.replicate (A.length-n+1) 0):=by
 have hp:2^k<=2^31:=bU zdd hk;have hA:=sM ha;have up:nv A*2^k<pw A.length*2147483648:=w9 (Tf hA (bY zdd)) (sI _ hp);have up2:nv A*2^k<pw (A.length+1):=by rw[xX];omega
 have hv:=PF _ _ up2;refine⟨HV _ _,PE _ _,zsm,dY _,zX _,by rw[iT zsm,Nat.mul_zero,Nat.mul_zero,hv];rfl,?_⟩;have e1:=lK (lS (A.length+1) (nv A*2^k)) (A.length-n+1);rw[hv]at e1;have e2:pw A.length=pw (A.length-n+1)*pw (n-1):=by rw[<- Ei];congr 1;omega
 have:pw (A.length-n+1)*nt (lS (A.length+1) (nv A*2^k)) (A.length-n+1)<pw (A.length-n+1)*W:=by
  have:pw (A.length-n+1)*(2147483648*pw (n-1))<=pw (A.length-n+1)*W:=sI _ hW;rw[pO]at this;rw[e2]at up;omega
 exact CO this
def OutTz.small{U':List Int}{n q:Nat}(hU:okN U)(h:OutTz U U' i n q W)(hlt:nt U i<W*4294967296):q<4294967296:=by
 have e:=lK U i;have k1:=dZ hU i;have h2:=h.eq
 have h3:pw i*(q*W)<pw i*(nt U i+1):=by
  rw[xH,<- pO q];omega
 have h4:=CO h3;have h5:W*q<W*4294967296:=by rw[wC W q];omega
 exact CO h5
def IE(a b:Nat):vD a b<0↔a<b:=by
 unfold vD
 split
 .omega
 .split<;>omega
def QE(xs ys:List Int)(hx:okN xs)(hy:okN ys)(hl:xs.length<2147483646)(hl2:ys.length<2147483646):Fn 224 [zQ xs,zQ ys] (.data (.tup [zQ (zJ (nv xs/nv ys)),zQ (if nv ys=0 then [] else zJ (nv xs%nv ys)),.int .i64 (if nv ys=0 then 3 else 0)])):=by
 have ct1:=sQ xs hx zom;have ct2:=sQ ys hy zom;obtain⟨A,eA⟩:∃ A,zJ (nv xs)=A:=⟨_,rfl⟩;obtain⟨B,eB⟩:∃ B,zJ (nv ys)=B:=⟨_,rfl⟩;have ha:lQ A:=eA ▸ cA _;have hb:lQ B:=eB ▸ cA _;have hvA:nv A=nv xs:=eA ▸ yR _;have hvB:nv B=nv ys:=eB ▸ yR _;have hA:A.length<=xs.length:=eA ▸ uC hx;have hB:B.length<=ys.length:=eB ▸ uC hy;rw[eA]at ct1;rw[eB]at ct2;rw[<- hvA,<- hvB];have cc:=DU A B ha.1 hb.1 zom zom;have hcmp:=IE (nv A) (nv B);refine fnV (mkO func224 ntmps224 results224) ?_;refine cvd ct1 ?_;refine zT ct2 rfl ?_
 refine gob ?_ ?_<;>intro h
 .have h0:B=[]:=vZ.1 zom
  subst h0;refine zL rfl ?_;simp[nv,d9]
 refine zT cc rfl ?_
 (refine gob ?_ ?_<;>intro h;rotate_left;refine gob ?_ ?_<;>intro h;rotate_right)
 .have hlt:nv A<nv B:=zom
  have hne:nv B≠0:=zom
  rw[zB hne,zB hne,Cc hlt,jQ hlt,HT ha];have cm:=IC A ha.1 zom;rw[HT ha]at cm;refine cvd cm ?_;exact yD
 .have hB1:B.length=1:=zom
  have hge:nv B<=nv A:=zom
  have hd:=vA hb.1 0;have e1:nv B=lb B 0:=by rw[<- vU (a:=B) (k:=1) zom,wV,rW,q8];omega
  have e2:=wF (a:=B) (k:=0) zom hb.1
  have hp:0<nv B:=by
   have:=C0 hb (fun e=>by subst e;simp at hB1);have:=BZ (B.length-1);omega
  have hne:nv B≠0:=zom
  rw[zB hne,zB hne,<- e2,<- e1];refine cvd (uQJ A (nv B) ha.1 zom ⟨hp,zom⟩) ?_;exact yD
 .have hB2:2<=B.length:=zom
  have hge:nv B<=nv A:=zom
  have hlb:=wF (a:=B) (k:=B.length-1) zom hb.1;refine wP (j:=B.length-1) (by first|omega|(simp only[z6];omega)) zom ?_;rw[<- hlb];refine sts ?_;refine zT (uVC (lb B (B.length-1)) (vA hb.1 _)) rfl (sts ?_)
  have htop:lb B (B.length-1)≠0:=by
   have h1:=hb.2;rcases h1 with h1|h1
   .subst h1;simp at hB2
   .intro e
    apply h1;rw[JJ,wN zom];rw[e,zS B _ zom]at hlb;rw[<- hlb];rfl
  have hbb:=jY 32 _ (vA hb.1 (B.length-1)) zdd
  have hb1:1<=bl (lb B (B.length-1)):=by
   have:=hbb.1;rcases EC (bl (lb B (B.length-1))) with e|e
   .rw[e]at this;omega
   .exact e
  obtain⟨k,hk⟩:∃ k:Nat,bl (lb B (B.length-1))+k=32:=⟨32-bl (lb B (B.length-1)),zom⟩;rw[show(32:Int)-(bl (lb B (B.length-1)):Int)=(k:Int) by omega];refine BS (XW A k ha.1 zom zom) rfl (sts ?_);refine BS (XW B k hb.1 zom zom) rfl (sts ?_);obtain⟨up,hVl,hVt⟩:=vSJ hb.1 rfl zom htop hk;have hVo:=yP (nv B*2^k);have hVv:=yR (nv B*2^k);have hpl:=qM (show B.length<=B.length+1 by omega);have ct3:=sQ (lS (B.length+1) (nv B*2^k)) (PE _ _) (by rw[HV];omega);rw[PF _ _ zom]at ct3
  have hAB:B.length<=A.length:=by
   rcases nD A.length B.length with e|e
   .have:=KN ha hb e;omega
   .exact e
  have hBp:0<nv B:=by
   have:=C0 hb (fun e=>by subst e;simp at hB2);have:=BZ (B.length-1);omega
  have hVlow:2147483648*pw (B.length-1)<=nv B*2^k:=by
   have e2:nv (zJ (nv B*2^k))=nk (zJ (nv B*2^k)) (B.length-1)+pw (B.length-1)*lb (zJ (nv B*2^k)) (B.length-1):=by rw[<- wV,show B.length-1+1=B.length by omega,vU zom]
   have:=sI (pw (B.length-1)) hVt;rw[hVv]at e2;rw[wC];omega
  have hst:=Dv.start (n:=B.length) ha.1 hAB zom (show k<=31 by omega) hVlow;have hpk:0<2^k:=bY zdd;refine zT ct3 (yL (xP rfl rfl zsm (fun x=>qD x)) rfl) ?_;obtain⟨V,eV⟩:∃ V,zJ (nv B*2^k)=V:=⟨_,rfl⟩;rw[eV]at hVl hVt hVo hVv ⊢;rw[<- hVv]at hst up;refine sts ?_
  refine xG hT (fun((i,U,O):Nat×List Int×List Int)=>[(9,.int .i64 k),(10,.own 0 0 (A.length+1)),(11,zQ V),(12,.own 1 0 (A.length-B.length+1)),(13,.int .i64 ((i:Int)-1))]) (fun(_,U,O)=>eC U O) [] 2
   (fun(i,U,O)=>Dv (nv A*2^k) (nv V) A.length B.length i U O) (fun(i,_,_)=>i) (A.length-B.length+1,lS (A.length+1) (nv A*2^k),List.replicate (A.length-B.length+1) 0) hst zdd zsm ?_ ?_
  .exact⟨[32,45],[],[],[],ttt,⟨zD,zI zdd rfl (by rw[z6,HV]),zM,zI zdd rfl qK,zG rfl qK,zA⟩,
    ⟨zH zdd rfl rfl (yZ fun _=>⟨rfl,zsm⟩) rfl,zH zdd rfl (aM (f:=PV.int .u32) (x:=0) qK) (yZ fun _=>⟨rfl,zsm⟩) rfl,zA⟩,zO⟩
  intro⟨i,U,O⟩ hd;have hul:=hd.ul;have hol:=hd.ol;have hle:=hd.le
  refine gob ?_ ?_<;>intro h
  .obtain⟨i,rfl⟩:∃ i',i=i'+1:=⟨i-1,zom⟩
   obtain⟨p1,p2,p3⟩:=hd.part zom;rw[show 0+(((i+1:Nat):Int)-1).toNat=i by omega,show(((i+1:Nat):Int)-1+((List.map (PV.int .u32) V).length:Int)+1).toNat-(((i+1:Nat):Int)-1).toNat=B.length+1 by simp only[z6];omega];refine fO (vSP U O V i B.length _ _ _ hd.uo hVo hB2 hVl zom zom hVt zom ?_);intro q t1 nx1 n1 q1 q2 q3;obtain⟨m,rfl⟩:∃ m,nx1=m+2:=⟨nx1-2,zom⟩;rw[p2]at q1 q2;refine sts ?_;refine fO (uFU U O V i B.length q _ _ _ hd.uo hVo hB2 hVl zom zom p1 q1 q2 q3 ?_);intro r U' t2 nx2 n2 r1 r2 o;have r3:=o.small hd.uo p3;have hd':=hd.step o r3;rw[show((r:Nat):Int)%4294967296=(r:Int) by omega];refine sts ?_;refine yB i (by first|omega|(simp only[z6];omega)) zom ?_;refine sts ?_
   exact⟨(i,U',O.set i (r:Int)),⟨hd',by show i<i+1;omega⟩,[0,1],[],[],[],ttt,⟨zD,zI zdd rfl rfl,zM,zI zdd rfl rfl,zG rfl zom,zA⟩,
    ⟨zH zdd rfl rfl (yZ fun _=>⟨rfl,zsm⟩) rfl,zH zdd rfl (x5 zom rfl) (yZ fun _=>⟨rfl,zsm⟩) rfl,zA⟩,zO⟩
  .obtain rfl:i=0:=zom
   obtain⟨f1,f2⟩:=hd.done;have cs:=uU7 U k hd.uo zom zom;refine zT cs (yL (xP rfl rfl zom (fun x=>qD x)) rfl) (sts ?_);have ct4:=sQ O hd.oo zom;refine zT ct4 (yL (xP rfl rfl zom (fun x=>qD x)) rfl) (sts ?_);refine zL rfl ?_;have hne:nv B≠0:=zom
   rw[zB hne,zB hne,f1,f2,hVv,Nat.mul_div_mul_right _ _ hpk,Nat.mul_mod_mul_right,Nat.mul_div_cancel _ hpk]
def K8(P Q:Nat):Nat.gcd Q (P%Q)=Nat.gcd P Q:=by rw[Je Q,<- Nat.gcd_rec,Je]
def DW{m n:Nat}(h:m<=n):(zJ m).length<=(zJ n).length:=by
 have:=sM (yP n);rw[yR]at this;exact sW zom
def uU8(xs ys:List Int)(hx:okN xs)(hy:okN ys)(hl:xs.length<2147483646)(hl2:ys.length<2147483646):Fn 223 [zQ xs,zQ ys] (.data (zQ (zJ (Nat.gcd (nv xs) (nv ys))))):=by
 have ct1:=sQ xs hx zom;have ct2:=sQ ys hy zom;have h1:=uC hx;have h2:=uC hy;generalize nv xs=P0 at *
 generalize nv ys=Q0 at *
 obtain⟨g,eg⟩:∃ g,Nat.gcd P0 Q0=g:=⟨_,rfl⟩;rw[eg];refine fnV (mkO func223 ntmps223 results223) ?_;refine cvd ct1 ?_;refine cvd ct2 ?_;refine rU hT (fun((P,Q):Nat×Nat)=>[(0,zQ (zJ P)),(1,zQ (zJ Q))]) (fun(P,Q)=>Nat.gcd P Q=g/\(zJ P).length<2147483646/\(zJ Q).length<2147483646) (fun(_,Q)=>Q) (P0,Q0) ⟨eg,zom,zom⟩ ?_ ?_
 .exact⟨zM,zM,zA⟩
 intro⟨P,Q⟩ ⟨i1,i2,i3⟩;have cd:=QE (zJ P) (zJ Q) (yP P) (yP Q) i2 i3;rw[yR,yR]at cd
 (refine gob ?_ ?_<;>intro h;rotate_left;refine gob ?_ ?_<;>intro h;rotate_right)
 .have hQ:Q≠0:=fun e=>by subst e;rw[d9]at h;simp at h
  rw[zB hQ,zB hQ]at cd;refine cvd cd ?_;have hm:=nZ P (show Q > 0 by omega);have hml:=DW (EL hm);exact⟨(Q,P%Q),⟨⟨by rw[K8];exact i1,i3,zom⟩,hm⟩,zM,zM,zA⟩
 .have cm:=IC (zJ P) (yP P) zom
  rw[yR]at cm;refine cvd cm ?_;have hQ:Q=0:=kS (vZ.1 zom);subst hQ;rw[JU]at i1;subst i1;exact yD
 .have hQ:Q≠0:=fun e=>by subst e;rw[d9]at h;simp at h
  rw[zB hQ,zB hQ]at cd;refine cvd cd ?_
  have hQ64:Q<18446744073709551616:=by
   have a:=sM (yP Q);have b:=qM (show(zJ Q).length<=2 by omega);rw[yR]at a;have c:pw 2=18446744073709551616:=by rw[xX,xX,q8]
   omega
  have hm:=nZ P (show Q > 0 by omega);have hml:=DW (EL hm);have cu1:=XV (zJ Q) (yP Q) zom;rw[yR,zE hQ64]at cu1;have cu2:=XV (zJ (P%Q)) (yP _) zom;rw[yR,zE zom]at cu2;refine cvd cu1 ?_;refine cvd cu2 ?_;refine rU hT (fun((x,y):Nat×Nat)=>[(11,.int .u64 x),(13,.int .u64 y)]) (fun(x,y)=>Nat.gcd x y=g/\x<18446744073709551616/\y<18446744073709551616) (fun(_,y)=>y) (Q,P%Q) ⟨by rw[K8];exact i1,hQ64,zom⟩ ?_ ?_
  .exact⟨zD,zD,zA⟩
  intro⟨x,y⟩ ⟨j1,j2,j3⟩
  refine gob ?_ ?_<;>intro h
  .have hy0:y > 0:=zom
   have hmy:=nZ x hy0;exact⟨(y,x%y),⟨⟨by rw[K8];exact j1,j3,zom⟩,hmy⟩,zD,zG rfl (Int.ofNat_tmod x y).symm,zA⟩
  .have hy0:y=0:=zom
   subst hy0;rw[JU]at j1;subst j1;refine cvd (K6 x j2) ?_;exact yD
variable {xs:List Int}
def IG(b:Bool)(xs:List Int)(hx:okN xs)(hl:xs.length<2147483646):Fn 189 [.bool b,zQ xs] (.data (vI (cz (sg b (nv xs))))):=by
 rw[PG];have ct:=IC xs hx zom;have hz:zJ (nv xs)=[]↔nv xs=0:=⟨kS,fun h=>by rw[h];rfl⟩;refine fnV (mkO func189 ntmps189 results189) ?_;refine zT ct rfl ?_
 refine gob ?_ ?_<;>intro h
 .refine zL rfl ?_
  subst h;have:(0<(zJ (nv xs)).length)↔nv xs≠0:=by rw[CV,ne_eq,hz]
  simp[vI,this]
 .subst h
  exact yD
def uXO(x:Int)(hx:-9223372036854775808<=x/\x<9223372036854775808):Fn 129 [.int .i64 x] (.data (vI (cz x))):=by
 refine yJ zU hT (mkO func129 ntmps129 results129) zsm ?_
 refine gob ?_ ?_<;>intro h
 .refine dX ?_
  refine sts ?_;refine dX ?_;have e:(0-x%18446744073709551616)%18446744073709551616=((x.natAbs:Nat):Int):=zom
  refine sts ?_;rw[e];refine cvd (K6 x.natAbs zom) ?_;refine zL rfl ?_;simp[vI,cz,h]
 .refine zT (K6 x.natAbs zom) (by rw[Int.natAbs_of_nonneg zom];rfl) ?_
  refine sts ?_;refine zL rfl ?_;simp[vI,cz,h]
def QG(x:IntL)(hx:okN x.mag)(hl:x.mag.length<2147483646):Fn 125 [vI x] (.data (.int .i64 (iv x).sign)):=by
 have cb:=XU x.mag hx zom;have hz:=XT (nv x.mag);unfold iv;rw[PH];refine yJ zU hT (mkO func125 ntmps125 results125) (by simp[vI]) (sts ?_);refine zT cb rfl ?_
 (refine gob ?_ ?_<;>intro h;rotate_left;refine gob ?_ ?_<;>intro h;rotate_right)
 .refine zL rfl ?_
  rw[zE (hz.1 h)]
 .refine zL rfl ?_
  rw[zB zom,h,zE rfl]
 .refine zL rfl ?_
  rw[zB zom,h];rfl
def II(z:Int):z.sign=-1/\z<0\/z.sign=0/\z=0\/z.sign=1/\0<z:=by
 rcases Ai z 0 with h|h|h
 .exact zF ⟨F6 h,h⟩
 .exact zC (zF ⟨by rw[h];rfl,h⟩)
 .exact zC (zC ⟨GD h,h⟩)
def uG0{x y:IntL}(h1:iv x<0)(h2:iv y<0):vD (iv x) (iv y)=vD (nv y.mag) (nv x.mag):=by
 unfold iv sg at *
 unfold vD
 split at h1<;>split at h2<;>try omega
 rename_i e1 e2
 rw[zE e1,zE e2]
 repeat' split
 all_goals omega
def uGZ{x y:IntL}(h1:0<=iv x)(h2:0<=iv y):vD (iv x) (iv y)=vD (nv x.mag) (nv y.mag):=by
 unfold iv sg at *
 unfold vD
 split at h1<;>split at h2<;>rename_i e1 e2<;>simp only[e1,e2,uA,tE,JX,ite_true,ite_false]
 all_goals repeat' split
 all_goals omega
def uVD(x y:IntL)(hx:okN x.mag)(hy:okN y.mag)(hl:x.mag.length<2147483646)(hl2:y.mag.length<2147483646):Fn 138 [vI x,vI y] (.data (.int .i64 (vD (iv x) (iv y)))):=by
 have cs1:=QG x hx hl;have cs2:=QG y hy hl2;have cc1:=DU x.mag y.mag hx hy zom zom;have cc2:=DU y.mag x.mag hy hx zom zom;have k1:=II (iv x);have k2:=II (iv y);refine yJ zU hT (mkO func138 ntmps138 results138) (by simp[vI]) (sts ?_);refine cvd cs1 ?_;refine zT cs2 rfl ?_
 (refine gob ?_ ?_<;>intro h;rotate_left;refine gob ?_ ?_<;>intro h;rotate_left;refine gob ?_ ?_<;>intro h;rotate_right;rotate_right)
 .refine zL rfl ?_
  rw[show vD (iv x) (iv y)=-1 by unfold vD;rw[zE zom]]
 .refine zL rfl ?_
  rw[show vD (iv x) (iv y)=1 by unfold vD;rw[zB zom,zE zom]]
 .refine cvd cc2 ?_
  refine zL rfl ?_;rw[uG0 zom zom]
 .refine cvd cc1 ?_
  refine zL rfl ?_;rw[uGZ zom zom]
def K9  (h:okN xs){n:Nat}(hn:n<=nv xs):(zJ n).length<=xs.length:=sW (nB hn (sM h))
def Xd{ys:List Int}(h1:okN xs)(h2:okN ys):(zJ (nv xs+nv ys)).length<=max xs.length ys.length+1 :=
 vJI (w9 (sM h1) (qM (Nat.le_max_left ..))) (w9 (sM h2) (qM (Nat.le_max_right ..)))
def aV{ys:List Int}(h1:okN xs)(h2:okN ys):(zJ (nv xs*nv ys)).length<=xs.length+ys.length:=sW (C8 (sM h1) (sM h2))
def uVE (x y : IntL) (hx : okN x.mag) (hy : okN y.mag) (hl:x.mag.length<2147483644) (hl2:y.mag.length<2147483644):Fn 167 [vI x,vI y] (.data (vI (cz (iv x+iv y)))):=by
 have ca:=uU9 x.mag y.mag hx hy zom zom;have cc:=DU x.mag y.mag hx hy zom zom;have cs1:=XR x.mag y.mag hx hy zom zom;have cs2:=XR y.mag x.mag hy hx zom zom;refine yJ zU hT (mkO func167 ntmps167 results167) (by simp[vI]) ?_
 refine gob ?_ ?_<;>intro h
 .refine cvd ca ?_
  have cm:=IG x.neg (zJ (nv x.mag+nv y.mag)) (yP _) (by have:=uC hx;have:=Xd hx hy;omega);rw[yR]at cm;refine cvd cm ?_;refine zL rfl ?_;rw[show iv x+iv y=sg x.neg (nv x.mag+nv y.mag) by unfold iv;rw[<- h];unfold sg;split<;>omega];rfl
 .refine zT cc rfl ?_
  have hlt:=IE (nv x.mag) (nv y.mag)
  refine gob ?_ ?_<;>intro h
  .unfold iZ at cs2
   rw[zB zom]at cs2;refine cvd cs2 ?_;have cm:=IG y.neg (zJ (nv y.mag-nv x.mag)) (yP _) (by have:=K9 hy (n:=nv y.mag-nv x.mag) zom;omega);rw[yR]at cm;refine cvd cm ?_;refine zL rfl ?_
   rw [show iv x + iv y = sg y.neg (nv y.mag - nv x.mag) by have:x.neg=!y.neg:=by(cases hh:x.neg<;>cases hh':y.neg<;>simp_all)
                                                            unfold iv;rw[this,Ek];unfold sg;split<;>omega]
   rfl
  .unfold iZ at cs1
   rw[zB zom]at cs1;refine cvd cs1 ?_;have cm:=IG x.neg (zJ (nv x.mag-nv y.mag)) (yP _) (by have:=K9 hx (n:=nv x.mag-nv y.mag) zom;omega);rw[yR]at cm;refine cvd cm ?_;refine zL rfl ?_
   rw [show iv x + iv y = sg x.neg (nv x.mag - nv y.mag) by have:y.neg=!x.neg:=by(cases hh:x.neg<;>cases hh':y.neg<;>simp_all)
                                                            unfold iv;rw[this,Ek];unfold sg;split<;>omega]
   rfl
def Xe(x y:IntL)(hx:okN x.mag)(hy:okN y.mag)(hl:x.mag.length<1073741818)(hl2:y.mag.length<1073741818):Fn 197 [vI x,vI y] (.data (vI (cz (iv x*iv y)))):=by
 have ca:=FC x.mag y.mag hx hy zom zom;refine yJ zU hT (mkO func197 ntmps197 results197) (by simp[vI]) (sts ?_);refine cvd ca ?_;have cm:=IG (x.neg != y.neg) (zJ (nv x.mag*nv y.mag)) (yP _) (by have:=aV hx hy;omega);rw[yR]at cm;refine cvd cm ?_;refine zL rfl ?_;rw[KX];rfl
def Xf:Fn 190 [] (.data (zQ [1])):=by
 refine fnV (mkO func190 ntmps190 results190) ?_;exact yD
def QH(xs:List Int)(hl:xs.length<2147483646):Fn 222 [zQ xs] (.data (.bool (decide (xs=[1])))):=by
 refine yJ zU hT (mkO func222 ntmps222 results222) zsm ?_
 refine gob ?_ ?_<;>intro h
 .obtain⟨x,rfl⟩:=JN.1 (show xs.length=1 by omega)
  refine zL rfl ?_;simp[Vk]
 .refine zL rfl ?_
  have:xs≠[1]:=fun e=>h (by rw[e];rfl)
  simp[this]
def und(d:List Int):List Int:=if nv d=0 then [1] else d
def o5(d:List Int):nv (und d)=dn d:=by unfold und dn;split<;>simp[nv]
def oF{d:List Int}(h:okN d):okN (und d):=by unfold und;split;exact okN_cons.2 ⟨zdd,aL⟩;exact h
def iD(d:List Int):(und d).length<=d.length+1:=by unfold und;split<;>simp
def aW(x:RatL)(hx:okR x)(hl:x.den.length<2147483646):Fn 170 [zR x] (.data (zQ (und x.den))):=by
 have cb:=XU x.den hx.2 zom;have hz:=XT (nv x.den);refine yJ zU hT (mkO func170 ntmps170 results170) (by simp[zR]) (sts ?_);refine zT cb rfl ?_
 refine gob ?_ ?_<;>intro h
 .refine cvd Xf ?_
  refine zL rfl ?_;rw[und,zE (hz.1 h)]
 .refine zL rfl ?_
  rw[und,zB (fun e=>h (hz.2 e))]
def QI(x:RatL)(hx:okR x)(hl:x.num.length<2147483646):Fn 126 [zR x] (.data (vI (cz (sg x.neg (nv x.num))))):=by
 have cm:=IG x.neg x.num hx.1 hl;refine yJ zU hT (mkO func126 ntmps126 results126) (by simp[zR]) (sts ?_);refine cvd cm ?_;exact yD
def IJ(b:Bool)(xs ys:List Int)(hx:okN xs)(hy:okN ys)(h0:nv ys≠0)(hl:xs.length<2147483636)(hl2:ys.length<2147483636):Fn 168 [.bool b,zQ xs,zQ ys] (.data (zR (cr (mkRat (sg b (nv xs)) (nv ys))))):=by
 have cm1:=IC xs hx zom;have cm2:=IC ys hy zom;have h1:=uC hx;have h2:=uC hy;have hone:∀ n,zJ n=[1]↔n=1:=fun n=>⟨fun h=>by rw[<- yR n,h];rfl,fun h=>by rw[h];rfl⟩
 have hnil:∀ n,zJ n=[]↔n=0:=fun n=>⟨kS,fun h=>by rw[h];rfl⟩
 rw[PK _ _ h0];generalize nv xs=N at *
 generalize nv ys=D at *
 have cg:=uU8 (zJ N) (zJ D) (yP _) (yP _) zom zom;rw[yR,yR]at cg;have hg0:Nat.gcd N D≠0:=fun e=>h0 (TZ e)
 have hg1:N=0->Nat.gcd N D=D:=fun e=>by rw[e,Nat.gcd_zero_left]
 have hg2:D=1->Nat.gcd N D=1:=fun e=>by rw[e,Nat.gcd_one_right]
 have hgl:(zJ (Nat.gcd N D)).length<=(zJ D).length:=DW (Nat.gcd_le_right _ zom);generalize Nat.gcd N D=G at *
 have cd1:=QE (zJ N) (zJ G) (yP _) (yP _) zom zom;have cd2:=QE (zJ D) (zJ G) (yP _) (yP _) zom zom;rw[yR,yR,zB hg0,zB hg0]at cd1 cd2;have cu1:=QH (zJ D) zom;have cu2:=QH (zJ G) zom;have hl3:(zJ (D/G)).length<=(zJ D).length:=DW (gS ..);have cu3:=QH (zJ (D/G)) zom;simp only[hone]at cu1 cu2 cu3;refine fnV (mkO func168 ntmps168 results168) ?_;refine zT cm1 rfl ?_
 refine gob ?_ ?_<;>intro h
 .have e:=(hnil N).1 (vZ.1 zom)
  refine zL rfl ?_;have e2:=hg1 e;subst e e2;simp[zR,d9,Nat.div_self (Nat.pos_of_ne_zero h0)]
 refine cvd cm2 ?_;refine zT cu1 rfl ?_
 refine gob ?_ ?_<;>intro h
 .have e2:=hg2 h
  subst h e2;have hN:N≠0:=fun e=>by rw[(hnil N).2 e]at *;simp at *
  refine zL rfl ?_;simp[zR,hN]
 have hN:N≠0:=fun e=>by rw[(hnil N).2 e]at *;simp at *
 rw[show(b&&decide (N≠0))=b by simp[hN]];refine cvd cg ?_;refine zT cu2 rfl ?_
 refine gob ?_ ?_<;>intro h
 .subst h
  simp only[Nat.div_one];have hD1:D≠1:=by assumption
  rw[zB hD1];refine zT cu1 rfl ?_
  refine gob ?_ ?_<;>intro h
  .exact absurd h hD1
  .exact yD
 .refine cvd cd1 ?_
  refine cvd cd2 ?_;refine zT cu3 rfl ?_
  refine gob ?_ ?_<;>intro h
  .rw[zE h]
   exact yD
  .rw[zB h]
   exact yD
def bD(x:RatL)(hx:okR x)(hl:x.num.length<2147483626)(hl2:x.den.length<2147483626):Fn 136 [zR x] (.data (zR (cr (qv x)))):=by
 have cu:=aW x hx zom;have hl3:=iD x.den;have cq:=IJ x.neg x.num (und x.den) hx.1 (oF hx.2) (by rw[o5];exact s5 _) zom zom;rw[o5]at cq;refine yJ zU hT (mkO func136 ntmps136 results136) (by simp[zR]) (sts ?_);refine cvd cu ?_;refine cvd cq ?_;exact yD
def Xg{xs ys:List Int}(h1:okN xs)(h2:okN ys)(hl:xs.length=ys.length)(h:nv xs=nv ys):xs=ys:=by
 rw[<- KR h1,<- KR h2,hl,h]
def Xh(a b:Nat):vD a b=0↔a=b:=by
 unfold vD
 repeat' split
 all_goals omega
def vRL{xs:List Int}(h:okN xs):DT xs=true↔xs=zJ (nv xs):=by
 have e:DT xs=true↔lQ xs:=by
  unfold DT lQ;rw[tC];by_cases h0:xs=[]
  .exact⟨fun _=>⟨h,zF h0⟩,fun _=>zF h0⟩
  have hl:xs.length≠0:=fun e=>h0 (vZ.1 e)
  rw[zS xs _ zom,JJ,wN zom];refine⟨fun h1=>⟨h,h1.imp id fun h2=>by simpa using h2⟩,fun h1=>h1.2.imp id fun h2=>by simpa using h2⟩
 rw[e];exact⟨fun h=>(HT h).symm,fun h=>by rw[h];exact cA _⟩
def uRV{x:RatL}(h:okN x.num)(hd:x.den=[]):x=⟨x.neg&&decide (nv x.num≠0),zJ (nv x.num),[]⟩↔(DT x.num=true/\(x.neg=true->0<x.num.length)):=by
 obtain⟨b,n,d⟩:=x;dsimp only at *
 subst hd;rw[vRL h];simp only[RatL.mk.injEq,bZ];constructor
 .rintro⟨h1,h2⟩
  refine⟨h2,fun hb=>?_⟩;rw[hb]at h1;have:nv n≠0:=by simpa using h1
  exact CV.2 fun e=>this (by rw[e];rfl)
 .rintro⟨h1,h2⟩
  refine⟨?_,h1⟩;cases b
  .rfl
  .have:nv n≠0:=fun e=>by rw[h1,e]at h2;simp[d9]at h2
   simp[this]
def IK(x:RatL)(hx:okR x)(hl:x.num.length<2147483626)(hl2:x.den.length<2147483626):Fn 105 [zR x] (.data (.bool (decide (x=cr (qv x))))):=by
 have cv:=uHL x.num zom;have cc:=bD x hx hl hl2;have hL:=yO (kT hx (k:=max (max x.num.length x.den.length) 1) zom zom zom);have ho:=yH (qv x)
 have hx0:x.den=[]->cr (qv x)=⟨x.neg&&decide (nv x.num≠0),zJ (nv x.num),[]⟩:=fun h=>by
  unfold qv;rw[h,show dn []=1 from rfl,PK _ _ zdd];simp
 generalize cr (qv x)=c at *
 have c1:=DU x.num c.num hx.1 ho.1 zom zom;have c2:=DU x.den c.den hx.2 ho.2 zom zom;refine yJ zU hT (mkO func105 ntmps105 results105) (by simp[zR]) ?_
 refine gob ?_ ?_<;>intro h
 .refine zT cv rfl ?_
  have hd:x.den=[]:=vZ.1 zom;have hx1:=hx0 hd;have key:x=c↔(DT x.num=true/\(x.neg=true->0<x.num.length)):=by rw[hx1];exact uRV hx.1 hd
  clear hx1 hx0 hL
  (refine gob ?_ ?_<;>intro h;refine gob ?_ ?_<;>intro h)
  .refine zL rfl (zV PV.bool ?_)
   simp_all
  .refine zL rfl (zV PV.bool ?_)
   simp_all
  .refine zL rfl (zV PV.bool ?_)
   simp_all
 .refine zT cc rfl ?_
  have n1:x=c->x.neg=c.neg/\x.num=c.num/\x.den=c.den:=fun e=>by rw[<- e];exact⟨rfl,rfl,rfl⟩
  have e1:=Xh (nv x.num) (nv c.num);have e2:=Xh (nv x.den) (nv c.den)
  (refine gob ?_ ?_<;>intro h;refine gob ?_ ?_<;>intro h;refine gob ?_ ?_<;>intro h)
  .refine zT c1 rfl ?_
   refine gob ?_ ?_<;>intro h
   .refine cvd c2 ?_
    refine zL rfl (zV PV.bool ?_);rw[Vk];refine bW.2 ⟨fun h4=>?_,fun h4=>e2.2 (by rw[(n1 h4).2.2])⟩;have a1:=Xg hx.1 ho.1 zom (e1.1 xU);have a2:=Xg hx.2 ho.2 zom (e2.1 h4);have a3:x.neg=c.neg:=by assumption
    cases x;cases c;simp_all
   .refine zL rfl (zV PV.bool ?_)
    exact(qL fun e=>h (e1.2 (by rw[(n1 e).2.1]))).symm
  .refine zL rfl (zV PV.bool ?_)
   exact(qL fun e=>h (by rw[(n1 e).2.2])).symm
  .refine zL rfl (zV PV.bool ?_)
   exact(qL fun e=>h (by rw[(n1 e).2.1])).symm
  .refine zL rfl (zV PV.bool ?_)
   exact(qL fun e=>h (n1 e).1).symm
def uHJ(z:Int)(hl:(zJ z.natAbs).length<2147483626):Fn 128 [vI (cz z)] (.data (zR (cr z))):=by
 have cq:=IJ (cz z).neg (cz z).mag [1] (yP _) (by rw[okN_cons];exact⟨zdd,aL⟩) zdd (by show(zJ _).length<_;omega) zdd;rw[show sg (cz z).neg (nv (cz z).mag)=z from iV z,show nv [1]=1 from rfl,Rat.mkRat_one]at cq;refine yJ zU hT (mkO func128 ntmps128 results128) (by simp[vI]) (sts ?_);refine cvd Xf ?_;refine cvd cq ?_;exact yD
def bE(x:Int)(hx:-9223372036854775808<=x/\x<9223372036854775808):Fn 53 [.int .i64 x] (.data (zR (cr x))):=by
 have hle:x.natAbs<pw 2:=by rw[xX,xX,q8];omega
 have hl:=sW hle;refine fnV (mkO func53 ntmps53 results53) ?_;refine cvd (uXO x hx) ?_;refine cvd (uHJ x zom) ?_;exact yD
def r9(x:RatL)(hx:okR x)(hl:x.num.length<2147483636):Fn 49 [zR x] (.data (.int .i64 (xQ (qv x)))):=by
 have cs:=QI x hx zom;have h2:=uC hx.1;have ci:=QG (cz (sg x.neg (nv x.num))) (yP _) (by show(zJ _).length<_;rw[iU];omega);rw[iV,<- KY]at ci;refine yJ zU hT (mkO func49 ntmps49 results49) (by simp[zR]) (sts ?_);refine cvd cs ?_;refine cvd ci ?_;exact yD
def Xi(x y:RatL)(hx:okR x)(hy:okR y)(hl1:x.num.length<1000000000)(hl2:x.den.length<1000000000)(hl3:y.num.length<1000000000)(hl4:y.den.length<1000000000):Fn 137 [zR x,zR y] (.data (.tup [vI (cz (sg x.neg (nv x.num)*dn y.den)),vI (cz (sg y.neg (nv y.num)*dn x.den))])):=by
 have cs1:=QI x hx zom;have cs2:=QI y hy zom;have cu1:=aW x hx zom;have cu2:=aW y hy zom;have h1:=uC hx.1;have h2:=uC hy.1;have u1:=iD x.den;have u2:=iD y.den;have cm1:=Xe (cz (sg x.neg (nv x.num))) ⟨false,und y.den⟩ (yP _) (oF hy.2) (by show(zJ _).length<_;rw[iU];omega) (by show(und _).length<_;omega);have cm2:=Xe (cz (sg y.neg (nv y.num))) ⟨false,und x.den⟩ (yP _) (oF hx.2) (by show(zJ _).length<_;rw[iU];omega) (by show(und _).length<_;omega);rw[iV,show iv ⟨false,und y.den⟩=dn y.den by show sg false _=_;rw[o5];rfl]at cm1;rw[iV,show iv ⟨false,und x.den⟩=dn x.den by show sg false _=_;rw[o5];rfl]at cm2;refine yJ zU hT (mkO func137 ntmps137 results137) (by simp[zR]) (sts ?_);refine cvd cu1 ?_;refine cvd cu2 ?_;refine cvd cs1 ?_;refine cvd cm1 ?_;refine cvd cs2 ?_;refine cvd cm2 ?_;exact yD
def uPW(X Y:Int):(X-Y).sign=vD X Y:=by
 have:=II (X-Y);unfold vD
 repeat' split
 all_goals omega
def Xj{z1 z2:Int}{d1 d2:Nat}(h1:d1≠0)(h2:d2≠0)(h:z1.sign<z2.sign):z1*d2<z2*d1:=by
 have e1:(z1*d2).sign=z1.sign:=by rw[Int.sign_mul,Tj h2,Int.mul_one]
 have e2:(z2*d1).sign=z2.sign:=by rw[Int.sign_mul,Tj h1,Int.mul_one]
 have:=II (z1*d2);have:=II (z2*d1);omega
def FD{z:Int}{d:List Int}{j:Nat}{xs:List Int}(h1:okN xs)(h:z.natAbs=nv xs)(hd:okN d)(hj:xs.length+d.length+1<=j):(zJ (z*(dn d:Nat)).natAbs).length<=j:=by
 refine sW ?_;rw[dG,h,Int.natAbs_natCast];exact w9 (C8 (sM h1) (PL hd (Jf _) zom)) (qM zom)
def DX(x y:RatL)(hx:okR x)(hy:okR y)(hl1:x.num.length<1000000000)(hl2:x.den.length<1000000000)(hl3:y.num.length<1000000000)(hl4:y.den.length<1000000000):Fn 65 [zR x,zR y] (.data (.int .i64 (xQ (qv x-qv y)))):=by
 have cs1:=r9 x hx zom;have cs2:=r9 y hy zom;have cc:=Xi x y hx hy hl1 hl2 hl3 hl4;have k1:=FD (z:=sg x.neg (nv x.num)) hx.1 (iU ..) hy.2 (zX _);have k2:=FD (z:=sg y.neg (nv y.num)) hy.1 (iU ..) hx.2 (zX _);have ci:=uVD (cz (sg x.neg (nv x.num)*dn y.den)) (cz (sg y.neg (nv y.num)*dn x.den)) (yP _) (yP _) (by show(zJ _).length<_;omega) (by show(zJ _).length<_;omega);rw[uC5,uPW];rw[iV,iV]at ci;have m1:=Xj (z1:=sg x.neg (nv x.num)) (z2:=sg y.neg (nv y.num)) (s5 x.den) (s5 y.den);have m2:=Xj (z1:=sg y.neg (nv y.num)) (z2:=sg x.neg (nv x.num)) (s5 y.den) (s5 x.den);rw[KY]at cs1 cs2;refine yJ zU hT (mkO func65 ntmps65 results65) (by simp[zR]) (sts ?_);refine cvd cs1 ?_;refine zT cs2 rfl ?_
 (refine gob ?_ ?_<;>intro h;refine gob ?_ ?_<;>intro h)
 .refine zL rfl ?_
  have:=m1 h;unfold vD;rw[zE this]
 .refine zL rfl ?_
  have:=m2 zom;unfold vD;rw[zB zom,zE this]
 .refine cvd cc ?_
  refine cvd ci ?_;exact yD
def Bq(x y:RatL)(hx:okR x)(hy:okR y)(hl1:x.num.length<1000000000)(hl2:x.den.length<1000000000)(hl3:y.num.length<1000000000)(hl4:y.den.length<1000000000):Fn 93 [zR x,zR y] (.data (zR (cr (qv x+qv y)))):=by
 have cc:=Xi x y hx hy hl1 hl2 hl3 hl4;have cu1:=aW x hx zom;have cu2:=aW y hy zom;have u1:=iD x.den;have u2:=iD y.den;have k1:=FD (z:=sg x.neg (nv x.num)) hx.1 (iU ..) hy.2 (zX _);have k2:=FD (z:=sg y.neg (nv y.num)) hy.1 (iU ..) hx.2 (zX _);have ca:=uVE (cz (sg x.neg (nv x.num)*dn y.den)) (cz (sg y.neg (nv y.num)*dn x.den)) (yP _) (yP _) (by show(zJ _).length<_;omega) (by show(zJ _).length<_;omega);rw[iV,iV]at ca;have cm:=FC (und x.den) (und y.den) (oF hx.2) (oF hy.2) zom zom;rw[o5,o5]at cm;rw[V3]
 have kl:(zJ (sg x.neg (nv x.num)*(dn y.den:Nat)+sg y.neg (nv y.num)*(dn x.den:Nat)).natAbs).length<2000000010:=by
  obtain⟨K,hK⟩:∃ K:Nat,K=2000000003:=⟨_,rfl⟩
  have e1:(sg x.neg (nv x.num)*(dn y.den:Nat)).natAbs<pw K:=by
   have:=sM (yP (sg x.neg (nv x.num)*(dn y.den:Nat)).natAbs);rw[yR]at this;exact w9 this (qM zom)
  have e2:(sg y.neg (nv y.num)*(dn x.den:Nat)).natAbs<pw K:=by
   have:=sM (yP (sg y.neg (nv y.num)*(dn x.den:Nat)).natAbs);rw[yR]at this;exact w9 this (qM zom)
  have e3:=xX K;have:=sW (n:=(sg x.neg (nv x.num)*(dn y.den:Nat)+sg y.neg (nv y.num)*(dn x.den:Nat)).natAbs) (k:=K+1) zom;omega
 have hd:dn x.den*dn y.den≠0:=Al (s5 _) (s5 _)
 have k4:(zJ (dn x.den*dn y.den)).length<=x.den.length+y.den.length+2:=by
  have:=aV (oF hx.2) (oF hy.2);rw[o5,o5]at this;omega
 generalize sg x.neg (nv x.num)*(dn y.den:Nat)+sg y.neg (nv y.num)*(dn x.den:Nat)=S at *
 generalize dn x.den*dn y.den=D at *
 have cq:=IJ (cz S).neg (cz S).mag (zJ D) (yP _) (yP _) (by rw[yR];exact hd) (by show(zJ _).length<_;omega) zom;rw[show sg (cz S).neg (nv (cz S).mag)=S from iV S,yR]at cq;refine yJ zU hT (mkO func93 ntmps93 results93) (by simp[zR]) (sts ?_);refine cvd cc ?_;refine cvd ca ?_;refine cvd cu1 ?_;refine cvd cu2 ?_;refine cvd cm ?_;refine cvd cq ?_;exact yD
def gD(x y:RatL)(hx:okR x)(hy:okR y)(hl1:x.num.length<1000000000)(hl2:x.den.length<1000000000)(hl3:y.num.length<1000000000)(hl4:y.den.length<1000000000):Fn 127 [zR x,zR y] (.data (zR (cr (qv x*qv y)))):=by
 have cu1:=aW x hx zom;have cu2:=aW y hy zom;have u1:=iD x.den;have u2:=iD y.den;have cm:=FC (und x.den) (und y.den) (oF hx.2) (oF hy.2) zom zom;have cn:=FC x.num y.num hx.1 hy.1 zom zom;rw[o5,o5]at cm;have k3:=aV hx.1 hy.1
 have k4:(zJ (dn x.den*dn y.den)).length<=x.den.length+y.den.length+2:=by
  have:=aV (oF hx.2) (oF hy.2);rw[o5,o5]at this;omega
 have hd:dn x.den*dn y.den≠0:=Al (s5 _) (s5 _);have cq:=IJ (x.neg != y.neg) (zJ (nv x.num*nv y.num)) (zJ (dn x.den*dn y.den)) (yP _) (yP _) (by rw[yR];exact hd) zom zom;rw[yR,yR,KX,<- V4]at cq;refine yJ zU hT (mkO func127 ntmps127 results127) (by simp[zR]) (sts ?_);refine cvd cn ?_;refine cvd cu1 ?_;refine cvd cu2 ?_;refine cvd cm ?_;refine cvd cq ?_;exact yD
def DY(f:AffL)(n:Int)(hf:okA 2147483596 f):Fn 59 [x8 f,.int .i64 n] (.data (.bool (kU f n))):=by
 obtain⟨hc,ht,hl⟩:=hf;refine yJ zU hT (mkO func59 ntmps59 results59) (by simp[x8]) (sts ?_)
 refine xG hT (fun(i:Nat)=>[(1,.int .i64 n),(2,.ptr 0 0 0),(8,.imm (f.terms.map mI)),(9,.int .i64 f.terms.length),(10,.int .i64 i)]) (fun _=>[(0,⟨[x8 f],4,true⟩)]) [] 1
  (fun i=>i<=f.terms.length/\∀ j,j<i->okT f.terms n j) (fun i=>f.terms.length-i) 0 ⟨z8 _,fun j h=>zom⟩ zdd zsm ?_ ?_
 .exact⟨[0],[],[],[],ttt,⟨zD,apx,zM,zG rfl zsm,zD,zA⟩,⟨bbx,zA⟩,zO⟩
 intro i ⟨i1,i2⟩;have hcv:=IK f.const hc.1 (by have:=hc.2;omega) (by have:=hc.2;omega);by_cases hi:i<f.terms.length
 .have hq:=V7 (f:=f) ⟨hc,ht,hl⟩ hi
  have cs:=r9 f.terms[i]!.coef hq.1 (by have:=hq.2;omega);have cv:=IK f.terms[i]!.coef hq.1 (by have:=hq.2;omega) (by have:=hq.2;omega)
  (refine gob ?_ ?_<;>intro h;refine gob ?_ ?_<;>intro h;rotate_left;refine gob ?_ ?_<;>intro h;rotate_left;refine gob ?_ ?_<;>intro h;rotate_right;rotate_right)
  .exact zL rfl (zV PV.bool (kV (i:=i) zom fun e=>by have:=e.1;omega))
  .exact zL rfl (zV PV.bool (kV (i:=i) zom fun e=>by have:=e.2.1;omega))
  .refine wP (j:=i-1) zom zom ?_
   refine gob ?_ ?_<;>intro h
   .exact zL rfl (zV PV.bool (kV (i:=i) zom fun e=>by have:=e.2.2.1 zom;omega))
   refine zT cs rfl ?_
   refine gob ?_ ?_<;>intro h
   .exact zL rfl (zV PV.bool (kV (i:=i) zom fun e=>e.2.2.2.1 (sgnQ_zero.1 h)))
   .refine zT cv rfl ?_
    refine gob ?_ ?_<;>intro h
    .refine⟨i+1,⟨⟨zom,fun j hj=>?_⟩,zbo⟩,[0],[],[],[],ttt,⟨zD,apx,zM,zD,zG rfl zom,zA⟩,⟨bbx,zA⟩,zO⟩
     rcases Ae (Ah hj) with hj|rfl
     .exact i2 j hj
     .exact⟨zom,zom,fun h0=>by omega,fun e=>by have:=sgnQ_zero.2 e;omega,h⟩
    .exact zL rfl (zV PV.bool (kV (i:=i) zom fun e=>h e.2.2.2.2))
  .refine zT cs rfl ?_
   refine gob ?_ ?_<;>intro h
   .exact zL rfl (zV PV.bool (kV (i:=i) zom fun e=>e.2.2.2.1 (sgnQ_zero.1 h)))
   .refine zT cv rfl ?_
    refine gob ?_ ?_<;>intro h
    .refine⟨i+1,⟨⟨zom,fun j hj=>?_⟩,zbo⟩,[0],[],[],[],ttt,⟨zD,apx,zM,zD,zG rfl zom,zA⟩,⟨bbx,zA⟩,zO⟩
     rcases Ae (Ah hj) with hj|rfl
     .exact i2 j hj
     .exact⟨zom,zom,fun h0=>by omega,fun e=>by have:=sgnQ_zero.2 e;omega,h⟩
    .exact zL rfl (zV PV.bool (kV (i:=i) zom fun e=>h e.2.2.2.2))
  .omega
 ·(refine gob ?_ ?_<;>intro h;refine gob ?_ ?_<;>intro h;rotate_left;refine gob ?_ ?_<;>intro h;rotate_left;refine gob ?_ ?_<;>intro h;rotate_right;rotate_right)
  all_goals try omega
  refine cvd hcv ?_;exact zL rfl (zV PV.bool (V8 fun j hj=>i2 j zom))
def aX(n:Nat)(c:Rat):PV:=.agg [.own 0 0 n,.bool (cr c).neg,zQ (cr c).num,zQ (cr c).den]
def Xk(c:Rat):PV:=.agg [.nilsl,.bool (cr c).neg,zQ (cr c).num,zQ (cr c).den]
def nQ(O:List QT):Blk:=⟨O.map uY,4,true⟩
def LC(O:List QT)(c:Rat):A8 (nQ O) (aX O.length c):=by
 refine zF ⟨fun x hx=>?_,?_⟩
 .simp only[aX,dN,yI,uU,uX]at hx
  rcases hx with rfl|rfl|rfl|rfl
  .left;simp[nQ]
  all_goals right;rfl
 .simp[aX,dN,nQ]
def wQ(O:List QT):∀ e∈O.map uY,nr 3 e=true/\e≠.any:=yZ fun x=>⟨rfl,by simp[uY,mI]⟩
def Xl:FO 192 f192 [.cell 6 36] 20:=mkO func192 ntmps192 results192
def IL(O:List QT)(c:Rat)(v:Int)(q:Rat)(k:Nat)(hq:sz k q)(hk:k<=2147483596)(hO:O.length<2147483648):Fn 192 [aX O.length c,.int .i64 v,zR (cr q)] (.own (some (nQ O)) (aX (O++nzq v q).length c) (nQ (O++nzq v q))):=by
 have hl:=yO hq;have cs:=r9 (cr q) (yH q) zom;have cc:=bD (cr q) (yH q) zom zom;rw[yC]at cs cc;refine Vb zU hT Xl zsm (sts ?_);refine zT cs rfl ?_
 refine gob ?_ ?_<;>intro h
 .rw[Em fun e=>h (sgnQ_zero.2 e)]
  refine cvd cc ?_;refine jU ⟨rfl,by simp[nQ],yE⟩ (sts ?_);refine BU (r:=14) ?_ rfl ?_ rfl (fun e he=>(wQ _ e he).1) (LC _ c)
  .simp[aX,rk,rk1]
  .simp[nQ,uY,mI,tQ]
 .rw[show q=0 from sgnQ_zero.1 h,Kb,mV]
  exact BU (r:=0) rfl rfl rfl rfl (fun e he=>(wQ _ e he).1) (LC _ c)
def IM(c:Rat)(v:Int)(q:Rat)(k:Nat)(hq:sz k q)(hk:k<=2147483596):Fn 192 [Xk c,.int .i64 v,zR (cr q)] (.own none (aX (nzq v q).length c) (nQ (nzq v q))):=by
 have hl:=yO hq;have cs:=r9 (cr q) (yH q) zom;have cc:=bD (cr q) (yH q) zom zom;rw[yC]at cs cc;refine KG zU hT Xl zsm (sts ?_);refine zT cs rfl ?_
 refine gob ?_ ?_<;>intro h
 .rw[Em fun e=>h (sgnQ_zero.2 e)]
  refine cvd cc ?_;refine BU (r:=14) ?_ rfl ?_ rfl (fun e he=>(wQ _ e he).1) (LC _ c)
  .simp[aX,rk,rk1]
  .simp[uY,mI,tQ]
 .rw[show q=0 from sgnQ_zero.1 h,Kb]
  exact Va rfl rfl (LC [] c)
def grF:Bool->Nat->Rat->PV
 |true,n,c=>aX n c
 |false,_,c=>Xk c
def grH:Bool->List QT->List (Nat×Blk)
 |true,O=>[(0,nQ O)]
 |false,_=>[]
def IP:PV:=.agg [.nilsl,.bool false,.nilsl,.nilsl]
def tK(v:Int)(x:Rat):(nzq v x).length<=1:=by unfold nzq;split<;>simp
def DZ{h:Hp}{n:Nat}(x:QT):frz h (n+1) (uY x)=some (uY x,[]):=by cases n<;>rfl
def gG(p:QT)(a:List QT):(((p::a).length:Nat):Int) > 0:=by rw[List.length_cons];omega
set_option maxHeartbeats 1000000 in
def QJ(f g:QF)(c:Rat)(kf kg kc:Nat)(hf:∀ p∈f.ts,sz kf p.2)(hg:∀ p∈g.ts,sz kg p.2)(hfc:sz kf f.c)(hgc:sz kg g.c)(hc:sz kc c)(hk:kf+kg+kc<=950000000)(hl1:f.ts.length<=1048576)(hl2:g.ts.length<=1048576) :
 Fn 132 [zP f,zP g,zR (cr c)] (.data (zP (yA f g c))):=by
 have q1:=yO hfc;have q2:=yO hgc;have q3:=yO hc;have m0:=q9 hgc hc;have q4:=yO m0;have cm:=gD (cr g.c) (cr c) (yH _) (yH _) zom zom zom zom;rw[yC,yC]at cm;have ca:=Bq (cr f.c) (cr (g.c*c)) (yH _) (yH _) zom zom zom zom;rw[yC,yC]at ca;refine yJ zU hT (mkO func132 ntmps132 results132) (by simp[zP]) (sts ?_);refine cvd cm ?_;refine cvd ca ?_;obtain⟨C,hC⟩:∃ C,f.c+g.c*c=C:=⟨_,rfl⟩;obtain⟨M,hM⟩:∃ M,mrg c f.ts g.ts=M:=⟨_,rfl⟩;unfold yA;rw[hM];simp only[hC];clear ca cm
 refine xG hT (fun((a,b,O,s):List QT×List QT×List QT×Bool)=>[(5,.ptr 1 0 0),(6,.ptr 2 0 0),(7,.ptr 3 0 0),(8,.imm (a.map uY)),(9,.imm (b.map uY))])
  (fun(a,b,O,s)=>(1,⟨[zR (cr c)],3,true⟩)::(2,⟨[IP],4,true⟩)::(3,⟨[grF s O.length C],4,true⟩)::grH s O) [] 4
  (fun(a,b,O,s)=>(s=false->O=[])/\O++mrg c a b=M/\(∀ p∈a,sz kf p.2)/\(∀ p∈b,sz kg p.2)/\a.length+b.length+O.length<=2147483648)
  (fun(a,b,_,_)=>a.length+b.length) (f.ts,g.ts,[],false) ⟨fun _=>rfl,hM,hf,hg,yE⟩ zdd zsm ?_ ?_
 .exact⟨[0,2,3,12],[],[],[],ttt,⟨apx,apx,apx,zM,zM,zA⟩,
   ⟨bbx,bbx,bbx,zA⟩,by simp[ren,grH]⟩
 intro⟨a,b,O,s⟩ ⟨i1,i2,i3,i4,i5⟩;rcases a with _|⟨p,a⟩<;>rcases b with _|⟨q,b⟩<;>cases s
 .refine sts ?_
  rw[mrg,mV]at i2;have hO:=i1 rfl;subst hO;subst i2;exact yD
 .refine sts ?_
  rw[mrg,mV]at i2;subst i2;exact zL (lJ (yL (xP rfl rfl rfl (fun x=>DZ x)) rfl)) rfl
 ·refine gob ?_ ?_<;>intro h
  .have hq:=i4 q zsm
   have hqc:=q9 hq hc;have l1:=yO hq;have cm:=gD (cr q.2) (cr c) (yH _) (yH _) zom zom zom zom;rw[yC,yC]at cm;refine cvd cm ?_;refine lI (IM C q.1 (q.2*c) _ hqc zom) rfl (sts ?_);refine nH (l':=b) zsm (sts ?_);have nl:=tK q.1 (q.2*c)
   exact⟨([],b,nzq q.1 (q.2*c),true),⟨⟨zsm,by rw[mrg]at i2;rw[i1 rfl,List.nil_append]at i2;exact i2,fun r hr=>i3 r qJ,fun r hr=>i4 r qJ,by simp at i5 ⊢;omega⟩,by simp;try omega⟩,[_,_,_,_],[],[],[],ttt,⟨(apy rfl),(apy rfl),(apy rfl),xI rfl rfl,xI rfl rfl,zA⟩,
    ⟨bbx,bbx,xE zdd rfl ⟨⟨zdd,rfl⟩,rfl,rfl,rfl,zA⟩ rfl rfl,zH zdd rfl rfl (wQ _) rfl,zA⟩,by simp[ren,grH]⟩
  .exact absurd h zsm
 ·refine gob ?_ ?_<;>intro h
  .have hq:=i4 q zsm
   have hqc:=q9 hq hc;have l1:=yO hq;have cm:=gD (cr q.2) (cr c) (yH _) (yH _) zom zom zom zom;rw[yC,yC]at cm;refine cvd cm ?_;refine qY (r:=0) (IL O C q.1 (q.2*c) _ hqc zom zom) rfl rfl rfl rfl (rT (wQ O)) (sts ?_);refine nH (l':=b) zsm (sts ?_);have nl:=tK q.1 (q.2*c)
   exact⟨([],b,O++nzq q.1 (q.2*c),true),⟨⟨zsm,by rw[mrg]at i2;rw[tV];exact i2,fun r hr=>i3 r qJ,fun r hr=>i4 r qJ,by simp at i5 ⊢;omega⟩,by simp;try omega⟩,[_,_,_,_],[],[],[],ttt,⟨(apy rfl),(apy rfl),(apy rfl),xI rfl rfl,xI rfl rfl,zA⟩,
    ⟨bbx,bbx,xE zdd rfl ⟨⟨zdd,rfl⟩,rfl,rfl,rfl,zA⟩ rfl rfl,zH zdd rfl rfl (wQ _) rfl,zA⟩,by simp[ren,grH]⟩
  .exact absurd h zsm
 ·refine gob ?_ ?_<;>intro h
  .have hp:=i3 p zsm
   refine lI (IM C p.1 p.2 _ hp zom) rfl (sts ?_);refine nH (l':=a) zsm (sts ?_);have nl:=tK p.1 p.2
   exact⟨(a,[],nzq p.1 p.2,true),⟨⟨zsm,by rw[mrg]at i2;rw[i1 rfl,List.nil_append]at i2;exact i2,fun r hr=>i3 r qJ,fun r hr=>i4 r qJ,by simp at i5 ⊢;omega⟩,by simp;try omega⟩,[_,_,_,_],[],[],[],ttt,⟨(apy rfl),(apy rfl),(apy rfl),xI rfl rfl,xI rfl rfl,zA⟩,
    ⟨bbx,bbx,xE zdd rfl ⟨⟨zdd,rfl⟩,rfl,rfl,rfl,zA⟩ rfl rfl,zH zdd rfl rfl (wQ _) rfl,zA⟩,by simp[ren,grH]⟩
  all_goals first|contradiction|exact absurd (gG _ _) h|exact absurd (gG p a) xU|exact absurd (gG q b) xU
 ·refine gob ?_ ?_<;>intro h
  .have hp:=i3 p zsm
   refine qY (r:=0) (IL O C p.1 p.2 _ hp zom zom) rfl rfl rfl rfl (rT (wQ O)) (sts ?_);refine nH (l':=a) zsm (sts ?_);have nl:=tK p.1 p.2
   exact⟨(a,[],O++nzq p.1 p.2,true),⟨⟨zsm,by rw[mrg]at i2;rw[tV];exact i2,fun r hr=>i3 r qJ,fun r hr=>i4 r qJ,by simp at i5 ⊢;omega⟩,by simp;try omega⟩,[_,_,_,_],[],[],[],ttt,⟨(apy rfl),(apy rfl),(apy rfl),xI rfl rfl,xI rfl rfl,zA⟩,
    ⟨bbx,bbx,xE zdd rfl ⟨⟨zdd,rfl⟩,rfl,rfl,rfl,zA⟩ rfl rfl,zH zdd rfl rfl (wQ _) rfl,zA⟩,by simp[ren,grH]⟩
  all_goals first|contradiction|exact absurd (gG _ _) h|exact absurd (gG p a) xU|exact absurd (gG q b) xU
 ·(refine gob ?_ ?_<;>intro h;refine gob ?_ ?_<;>intro h;refine gob ?_ ?_<;>intro h;rotate_left;refine gob ?_ ?_<;>intro h;rotate_right;rotate_left 3;refine gob ?_ ?_<;>intro h;rotate_right 3;rotate_left 5;refine gob ?_ ?_<;>intro h;refine gob ?_ ?_<;>intro h;refine gob ?_ ?_<;>intro h;rotate_left;refine gob ?_ ?_<;>intro h;rotate_right;rotate_left 3;refine gob ?_ ?_<;>intro h;rotate_right 3;rotate_right 5)
  .have hp:=i3 p zsm
   refine lI (IM C p.1 p.2 _ hp zom) rfl (sts ?_);refine nH (l':=a) zsm (sts ?_);have nl:=tK p.1 p.2
   exact⟨(a,q::b,nzq p.1 p.2,true),⟨⟨zsm,by rw[mrg,zE (show p.1<q.1 from h)]at i2;rw[i1 rfl,List.nil_append]at i2;exact i2,fun r hr=>i3 r qJ,fun r hr=>i4 r qJ,by simp at i5 ⊢;omega⟩,by simp;try omega⟩,[_,_,_,_],[],[],[],ttt,⟨(apy rfl),(apy rfl),(apy rfl),xI rfl rfl,xI rfl rfl,zA⟩,
    ⟨bbx,bbx,xE zdd rfl ⟨⟨zdd,rfl⟩,rfl,rfl,rfl,zA⟩ rfl rfl,zH zdd rfl rfl (wQ _) rfl,zA⟩,by simp[ren,grH]⟩
  .have hq:=i4 q zsm
   have hqc:=q9 hq hc;have l1:=yO hq;have cm:=gD (cr q.2) (cr c) (yH _) (yH _) zom zom zom zom;rw[yC,yC]at cm;refine cvd cm ?_;refine lI (IM C q.1 (q.2*c) _ hqc zom) rfl (sts ?_);refine nH (l':=b) zsm (sts ?_);have nl:=tK q.1 (q.2*c)
   exact⟨(p::a,b,nzq q.1 (q.2*c),true),⟨⟨zsm,by rw[mrg,zB (show ¬ p.1<q.1 from ‹¬ (tQ p).var<(tQ q).var›),zE (show q.1<p.1 from h)]at i2;rw[i1 rfl,List.nil_append]at i2;exact i2,fun r hr=>i3 r qJ,fun r hr=>i4 r qJ,by simp at i5 ⊢;omega⟩,by simp;try omega⟩,[_,_,_,_],[],[],[],ttt,⟨(apy rfl),(apy rfl),(apy rfl),xI rfl rfl,xI rfl rfl,zA⟩,
    ⟨bbx,bbx,xE zdd rfl ⟨⟨zdd,rfl⟩,rfl,rfl,rfl,zA⟩ rfl rfl,zH zdd rfl rfl (wQ _) rfl,zA⟩,by simp[ren,grH]⟩
  .have hq:=i4 q zsm
   have hqc:=q9 hq hc;have l1:=yO hq;have cm:=gD (cr q.2) (cr c) (yH _) (yH _) zom zom zom zom;rw[yC,yC]at cm;have hp:=i3 p zsm;have hpq:=pU hp hqc;have l2:=yO hp;have l3:=yO hqc;have ca:=Bq (cr p.2) (cr (q.2*c)) (yH _) (yH _) zom zom zom zom;rw[yC,yC]at ca;refine cvd cm ?_;refine cvd ca ?_;refine lI (IM C p.1 (p.2+q.2*c) _ hpq zom) rfl (sts ?_);refine nH (l':=a) zsm (sts ?_);refine nH (l':=b) zsm (sts ?_);have nl:=tK p.1 (p.2+q.2*c)
   exact⟨(a,b,nzq p.1 (p.2+q.2*c),true),⟨⟨zsm,by rw[mrg,zB (show ¬ p.1<q.1 from ‹¬ (tQ p).var<(tQ q).var›),zB (show ¬ q.1<p.1 from h)]at i2;rw[i1 rfl,List.nil_append]at i2;exact i2,fun r hr=>i3 r qJ,fun r hr=>i4 r qJ,by simp at i5 ⊢;omega⟩,by simp;try omega⟩,[_,_,_,_],[],[],[],ttt,⟨(apy rfl),(apy rfl),(apy rfl),xI rfl rfl,xI rfl rfl,zA⟩,
    ⟨bbx,bbx,xE zdd rfl ⟨⟨zdd,rfl⟩,rfl,rfl,rfl,zA⟩ rfl rfl,zH zdd rfl rfl (wQ _) rfl,zA⟩,by simp[ren,grH]⟩
  all_goals first|contradiction|exact absurd (gG _ _) h|exact absurd (gG p a) xU|exact absurd (gG q b) xU
 ·(refine gob ?_ ?_<;>intro h;refine gob ?_ ?_<;>intro h;refine gob ?_ ?_<;>intro h;rotate_left;refine gob ?_ ?_<;>intro h;rotate_right;rotate_left 3;refine gob ?_ ?_<;>intro h;rotate_right 3;rotate_left 5;refine gob ?_ ?_<;>intro h;refine gob ?_ ?_<;>intro h;refine gob ?_ ?_<;>intro h;rotate_left;refine gob ?_ ?_<;>intro h;rotate_right;rotate_left 3;refine gob ?_ ?_<;>intro h;rotate_right 3;rotate_right 5)
  .have hp:=i3 p zsm
   refine qY (r:=0) (IL O C p.1 p.2 _ hp zom zom) rfl rfl rfl rfl (rT (wQ O)) (sts ?_);refine nH (l':=a) zsm (sts ?_);have nl:=tK p.1 p.2
   exact⟨(a,q::b,O++nzq p.1 p.2,true),⟨⟨zsm,by rw[mrg,zE (show p.1<q.1 from h)]at i2;rw[tV];exact i2,fun r hr=>i3 r qJ,fun r hr=>i4 r qJ,by simp at i5 ⊢;omega⟩,by simp;try omega⟩,[_,_,_,_],[],[],[],ttt,⟨(apy rfl),(apy rfl),(apy rfl),xI rfl rfl,xI rfl rfl,zA⟩,
    ⟨bbx,bbx,xE zdd rfl ⟨⟨zdd,rfl⟩,rfl,rfl,rfl,zA⟩ rfl rfl,zH zdd rfl rfl (wQ _) rfl,zA⟩,by simp[ren,grH]⟩
  .have hq:=i4 q zsm
   have hqc:=q9 hq hc;have l1:=yO hq;have cm:=gD (cr q.2) (cr c) (yH _) (yH _) zom zom zom zom;rw[yC,yC]at cm;refine cvd cm ?_;refine qY (r:=0) (IL O C q.1 (q.2*c) _ hqc zom zom) rfl rfl rfl rfl (rT (wQ O)) (sts ?_);refine nH (l':=b) zsm (sts ?_);have nl:=tK q.1 (q.2*c)
   exact⟨(p::a,b,O++nzq q.1 (q.2*c),true),⟨⟨zsm,by rw[mrg,zB (show ¬ p.1<q.1 from ‹¬ (tQ p).var<(tQ q).var›),zE (show q.1<p.1 from h)]at i2;rw[tV];exact i2,fun r hr=>i3 r qJ,fun r hr=>i4 r qJ,by simp at i5 ⊢;omega⟩,by simp;try omega⟩,[_,_,_,_],[],[],[],ttt,⟨(apy rfl),(apy rfl),(apy rfl),xI rfl rfl,xI rfl rfl,zA⟩,
    ⟨bbx,bbx,xE zdd rfl ⟨⟨zdd,rfl⟩,rfl,rfl,rfl,zA⟩ rfl rfl,zH zdd rfl rfl (wQ _) rfl,zA⟩,by simp[ren,grH]⟩
  .have hq:=i4 q zsm
   have hqc:=q9 hq hc;have l1:=yO hq;have cm:=gD (cr q.2) (cr c) (yH _) (yH _) zom zom zom zom;rw[yC,yC]at cm;have hp:=i3 p zsm;have hpq:=pU hp hqc;have l2:=yO hp;have l3:=yO hqc;have ca:=Bq (cr p.2) (cr (q.2*c)) (yH _) (yH _) zom zom zom zom;rw[yC,yC]at ca;refine cvd cm ?_;refine cvd ca ?_;refine qY (r:=0) (IL O C p.1 (p.2+q.2*c) _ hpq zom zom) rfl rfl rfl rfl (rT (wQ O)) (sts ?_);refine nH (l':=a) zsm (sts ?_);refine nH (l':=b) zsm (sts ?_);have nl:=tK p.1 (p.2+q.2*c)
   exact⟨(a,b,O++nzq p.1 (p.2+q.2*c),true),⟨⟨zsm,by rw[mrg,zB (show ¬ p.1<q.1 from ‹¬ (tQ p).var<(tQ q).var›),zB (show ¬ q.1<p.1 from h)]at i2;rw[tV];exact i2,fun r hr=>i3 r qJ,fun r hr=>i4 r qJ,by simp at i5 ⊢;omega⟩,by simp;try omega⟩,[_,_,_,_],[],[],[],ttt,⟨(apy rfl),(apy rfl),(apy rfl),xI rfl rfl,xI rfl rfl,zA⟩,
    ⟨bbx,bbx,xE zdd rfl ⟨⟨zdd,rfl⟩,rfl,rfl,rfl,zA⟩ rfl rfl,zH zdd rfl rfl (wQ _) rfl,zA⟩,by simp[ren,grH]⟩
  all_goals first|contradiction|exact absurd (gG _ _) h|exact absurd (gG p a) xU|exact absurd (gG q b) xU
def QK(f g:QF)(kf kg:Nat)(hf:szF kf f)(hg:szF kg g)(hk:kf+kg<=949999990)(hl1:f.ts.length<=1048576)(hl2:g.ts.length<=1048576):Fn 193 [zP f,zP g] (.data (zP (yA f g 1))):=by
 have cm:=QJ f g ((1:Int):Rat) kf kg 1 hf.2 hg.2 hf.1 hg.1 (pX zdd) zom hl1 hl2;have co:=bE 1 zdd;rw[Rat.intCast_one]at cm co;refine yJ zU hT (mkO func193 ntmps193 results193) (by simp[zP]) (sts ?_);refine cvd co ?_;refine cvd cm ?_;exact yD
def FE(f g:QF)(kf kg:Nat)(hf:szF kf f)(hg:szF kg g)(hk:kf+kg<=949999990)(hl1:f.ts.length<=1048576)(hl2:g.ts.length<=1048576):Fn 60 [zP f,zP g] (.data (zP (yA f g (-1)))):=by
 have cm:=QJ f g ((-1:Int):Rat) kf kg 1 hf.2 hg.2 hf.1 hg.1 (pX zdd) zom hl1 hl2;have co:=bE (-1) zdd;rw[show((-1:Int):Rat)=-1 by rfl]at cm co;refine yJ zU hT (mkO func60 ntmps60 results60) (by simp[zP]) (sts ?_);refine cvd co ?_;refine cvd cm ?_;exact yD
def Xm(f:QF)(c:Rat)(kf kc:Nat)(hf:szF kf f)(hc:sz kc c)(hk:kf+kc<=949999990)(hl1:f.ts.length<=1048576):Fn 62 [zP f,zR (cr c)] (.data (zP (yA zeroQ f c))):=by
 have cm:=QJ zeroQ f c 1 kf kc (cQ 1 zdd).2 hf.2 (cQ 1 zdd).1 hf.1 hc zom (by simp[zeroQ]) hl1;rw[Er]at cm;refine yJ zU hT (mkO func62 ntmps62 results62) (by simp[zP]) (sts ?_);refine cvd cm ?_;exact yD
def Xn:FO 101 f101 [.cell 4 34,.tmp 5] 42:=mkO func101 ntmps101 results101
def jD(xs:List Int)(ho:okN xs)(hl:xs.length<2147483648):Fn 183 [zQ xs] (.data (zQ (zJ (nv xs)))):=by
 refine fnV (mkO func183 ntmps183 results183) ?_;refine rU hT (fun n:Nat=>[(0,zQ xs),(3,.int .i64 n)]) (fun n=>n<=xs.length/\∀ j,n<=j->j<xs.length->xs[j]! = 0) (fun n=>n) xs.length ⟨zX _,fun j h1 h2=>by omega⟩ ?_ ?_
 .exact⟨zM,zG rfl zsm,zA⟩
 .intro n ⟨hn,hz⟩
  refine gob ?_ ?_<;>intro h
  .refine wP (j:=n-1) zom zom ?_
   refine gob ?_ ?_<;>intro h
   .refine⟨n-1,⟨⟨zom,fun j h1 h2=>?_⟩,zom⟩,zM,zG rfl zom,zA⟩
    by_cases e:j=n-1
    .subst e;assumption
    .exact hz j zom h2
   .refine nH (l':=xs.take n) zsm ?_
    refine sts ?_;refine zL (xP (f:=PV.int .u32) (l:=xs.take n) rfl rfl zsm (fun x=>qD x)) ?_;rw[KL ho hn hz (zC h)]
  .have h0:n=0:=zom
   subst h0;refine nH (l':=[]) zsm (sts ?_);refine zL (xP (f:=PV.int .u32) (l:=[]) rfl rfl zsm (fun x=>qD x)) ?_;rw[<- KL ho hn hz (zF rfl)];rfl
def Da(xs:List Int)(i:Int)(ho:okN xs)(hi:0<=i)(hl:xs.length<2147483648):Fn 228 [zQ xs,.int .i64 i] (.data (.int .u32 (lb xs i.toNat))):=by
 obtain⟨j,rfl⟩:=M0 hi;refine yJ zU hT (mkO func228 ntmps228 results228) zsm ?_
 refine gob ?_ ?_<;>intro h
 .refine zL rfl ?_
  rw[<- wF zom ho];rfl
 .refine zL rfl ?_
  rw[show((j:Int)).toNat=j from rfl,Ba zom];rfl
def LD(n:Nat)(hn:n<18446744073709551616):Fn 113 [.int .u64 n] (.data (zQ (zJ n))):=by
 refine fnV (mkO func113 ntmps113 results113) ?_;refine sK (sts ?_);rw[mH];refine sts ?_;have hv:nv [(n:Int)%4294967296,(n:Int)/4294967296]=n:=by simp only[nv];omega
 have cm:=jD [(n:Int)%4294967296,(n:Int)/4294967296] (by intro x hx;simp only[yI,uU,uX]at hx;omega) zsm;rw[hv]at cm;refine cvd cm ?_;exact yD
def Xo(xs ys:List Int)(hx:okN xs)(hy:okN ys)(hl:xs.length<2147483648)(hl2:ys.length<2147483648):Fn 255 [zQ xs,zQ ys] (.data (.int .i64 (vD (nv xs) (nv ys)))):=by
 refine fnV (mkO func255 ntmps255 results255) ?_;obtain⟨M,hM⟩:∃ M,max xs.length ys.length=M:=⟨_,rfl⟩;refine rU hT (fun n:Nat=>[(0,zQ xs),(1,zQ ys),(5,.int .i64 ((n:Int)-1))]) (fun n=>n<=2147483648/\nt xs n=nt ys n) (fun n=>n) M ⟨zom,by rw[iT zom,iT zom]⟩ ?_ ?_
 .exact⟨zM,zM,zG rfl (by simp only[z6];split<;>omega),zA⟩
 intro n ⟨hn,hnt⟩;have hsa:=nK hx (n-1);have hsb:=nK hy (n-1)
 refine gob ?_ ?_<;>intro h
 .have cl1:=Da xs ((n:Int)-1) hx zom hl
  have cl2:=Da ys ((n:Int)-1) hy zom hl2;have hn1:((n:Int)-1).toNat=n-1:=zom
  have h0:n-1+1=n:=zom
  rw[hn1]at cl1 cl2;rw[h0]at hsa hsb;refine cvd cl1 ?_;refine zT cl2 rfl ?_
  refine gob ?_ ?_<;>intro h
  .have:=KM hx hy (i:=n-1) (by rw[h0];exact hnt) (zC (by rw[h0];exact hsa)) (zC (by rw[h0];exact hsb)) zom
   refine zL rfl ?_;unfold vD;rw[zE zom]
  refine cvd cl1 ?_;refine zT cl2 rfl ?_
  refine gob ?_ ?_<;>intro h
  .have:=KM hy hx (i:=n-1) (by rw[h0];exact hnt.symm) (zC (by rw[h0];exact hsb)) (zC (by rw[h0];exact hsa)) zom
   refine zL rfl ?_;unfold vD;rw[zB zom,zE zom]
  .exact⟨n-1,⟨⟨zom,zom⟩,zom⟩,zM,zM,zG rfl zom,zA⟩
 .have h0:n=0:=zom
  subst h0;rw[Bb,Bb]at hnt;refine zL rfl ?_;unfold vD;rw[zB zom,zB zom]
def Xp(xs ys:List Int)(hl:xs.length<2147483648)(hl2:ys.length<2147483648):Fn 41 [zQ xs,zQ ys] (.data (.bool (decide (xs=ys)))):=by
 refine yJ zU hT (mkO func41 ntmps41 results41) zsm ?_
 refine gob ?_ ?_<;>intro h
 .refine zL rfl ?_
  rw[qL (fun e=>by subst e;exact h rfl)]
 .have hlen:xs.length=ys.length:=zom
  refine rU hT (fun n:Nat=>[(0,zQ xs),(1,zQ ys),(5,.int .i64 n)]) (fun n=>n<=xs.length/\∀ j,j<n->xs[j]! = ys[j]!) (fun n=>xs.length-n) 0 ⟨zom,fun j hj=>by omega⟩ ?_ ?_
  .exact⟨zM,zM,zD,zA⟩
  intro n ⟨hn,he⟩
  (refine gob ?_ ?_<;>intro h;refine gob ?_ ?_<;>intro h)
  .refine zL rfl ?_
   rw[qL (fun e=>by subst e;exact h rfl)]
  .exact⟨n+1,⟨⟨zom,fun j hj=>by
    rcases nD j n with q|q
    .exact he j q
    .obtain rfl:j=n:=zom
     exact h⟩,zom⟩,zM,zM,zG rfl zom,zA⟩
  .refine zL rfl ?_
   rw[sJ];refine vE hlen fun j h1 h2=>?_
   have:=he j zom;rw[zS xs j h1,zS ys j h2]at this;exact this
variable {O xs ys:List Int}{i y c c':Nat}
def Xq(j:Nat)(O:List Int):Nat×PV:=match O with
 |[]=>(j,.nilsl)
 |_::_=>(j,.own 0 0 O.length)
def gH(O:List Int):List (Nat×Blk):=match O with
 |[]=>[]
 |x::l=>[(0,⟨(x::l).map (.int .u32),1,false⟩)]
def uTD(y:Nat):nv [(y:Int)]=y:=by simp[nv]
def FG   (h:O.length=i):nv (O++[(y:Int)])=nv O+pw i*y:=by rw[HM,h,uTD]
def LF   (h:O.length=i)(i5:nv O+pw i*c=nk xs i+nk ys i)(e:c+(lb xs i+lb ys i)=c'*4294967296+y) :
 nv (O++[(y:Int)])+pw (i+1)*c'=nk xs (i+1)+nk ys (i+1):=by
 rw[FG h,wV,wV,xX]
 have:pw i*c+pw i*lb xs i+pw i*lb ys i=4294967296*pw i*c'+pw i*y:=by
  rw[<- xH,<- xH,wC 4294967296,vF,<- xH]
  congr 1
  omega
 omega
def gI   (h:okN O)(hy:y<4294967296):okN (O++[(y:Int)]):=okN_append.2 ⟨h,fun x hx=>by rw[yG.1 hx];omega⟩
def Xt(xs ys:List Int)(hx:okN xs)(hy:okN ys)(hl:xs.length<2147483647)(hl2:ys.length<2147483647):Fn 229 [zQ xs,zQ ys] (.data (zQ (zJ (nv xs+nv ys)))):=by
 refine fnV (mkO func229 ntmps229 results229) ?_
 refine xG hT (fun((i,O,c):Nat×List Int×Nat)=>[(0,zQ xs),(1,zQ ys),Xq 5 O,(6,.int .u64 c),(7,.int .i64 i)]) (fun(_,O,_)=>gH O) [] 1
  (fun(i,O,c)=>O.length=i/\i<=2147483646/\okN O/\c<2/\nv O+pw i*c=nk xs i+nk ys i) (fun(i,_,_)=>2147483648-i) (0,[],0) ⟨rfl,zom,aL,zom,by rw[rW,rW];rfl⟩ zdd zsm ?_ ?_
 .exact⟨[],[],[],[],ttt,⟨zM,zM,jW rfl,zD,zD,zA⟩,zA,by simp[gH]⟩
 intro⟨i,O,c⟩ ⟨i1,i2,i3,i4,i5⟩;have cl1:=Da xs (i:Int) hx zom zom;have cl2:=Da ys (i:Int) hy zom zom;rw[show((i:Int)).toNat=i from rfl]at cl1 cl2;have b1:=vA hx i;have b2:=vA hy i;rcases O with _|⟨o,O⟩
 ·(refine gob ?_ ?_<;>intro h;rotate_left;refine gob ?_ ?_<;>intro h;rotate_right)
  .refine cvd cl1 ?_
   refine cvd cl2 ?_;obtain⟨c',y,e1,e2⟩:∃ c' y,c+(lb xs i+lb ys i)=c'*4294967296+y/\y<4294967296:=⟨(c+(lb xs i+lb ys i))/4294967296,(c+(lb xs i+lb ys i))%4294967296,zom,zom⟩;have hst:=LF i1 i5 e1;refine sK ?_;rw[show((c:Int)+((lb xs i:Int)+(lb ys i:Int)))%4294967296=(y:Int) by omega];refine sts ?_
   exact⟨(i+1,[]++[(y:Int)],c'),⟨⟨by simp at i1 ⊢<;>omega,zom,gI i3 e2,zom,hst⟩,zbo⟩,[_],[],[],[],ttt,
    ⟨zM,zM,zI zdd rfl rfl,zG rfl (by rw[mH];omega),zG rfl zom,zA⟩,⟨zH zdd rfl rfl (yZ fun _=>⟨rfl,zsm⟩) rfl,zA⟩,by simp[gH]⟩
  .refine cvd cl1 ?_
   refine cvd cl2 ?_;obtain⟨c',y,e1,e2⟩:∃ c' y,c+(lb xs i+lb ys i)=c'*4294967296+y/\y<4294967296:=⟨(c+(lb xs i+lb ys i))/4294967296,(c+(lb xs i+lb ys i))%4294967296,zom,zom⟩;have hst:=LF i1 i5 e1;refine sK ?_;rw[show((c:Int)+((lb xs i:Int)+(lb ys i:Int)))%4294967296=(y:Int) by omega];refine sts ?_
   exact⟨(i+1,[]++[(y:Int)],c'),⟨⟨by simp at i1 ⊢<;>omega,zom,gI i3 e2,zom,hst⟩,zbo⟩,[_],[],[],[],ttt,
    ⟨zM,zM,zI zdd rfl rfl,zG rfl (by rw[mH];omega),zG rfl zom,zA⟩,⟨zH zdd rfl rfl (yZ fun _=>⟨rfl,zsm⟩) rfl,zA⟩,by simp[gH]⟩
  .have hv:nv ([]++[(c:Int)])=nv xs+nv ys:=by rw[FG i1,i5,vU zom,vU zom]
   have cm:=jD ([]++[(c:Int)]) (gI i3 zom) (by simp at i1 ⊢<;>omega);rw[hv]at cm;refine zT cm (yL (xP rfl rfl zsm (fun x=>qD x)) rfl) (sts ?_);exact yD
 ·(refine gob ?_ ?_<;>intro h;rotate_left;refine gob ?_ ?_<;>intro h;rotate_right)
  .refine cvd cl1 ?_
   refine cvd cl2 ?_;obtain⟨c',y,e1,e2⟩:∃ c' y,c+(lb xs i+lb ys i)=c'*4294967296+y/\y<4294967296:=⟨(c+(lb xs i+lb ys i))/4294967296,(c+(lb xs i+lb ys i))%4294967296,zom,zom⟩;have hst:=LF i1 i5 e1;refine sK ?_;rw[show((c:Int)+((lb xs i:Int)+(lb ys i:Int)))%4294967296=(y:Int) by omega];refine sts ?_;refine jU ⟨rfl,zsm,by simp at i1 ⊢<;>omega⟩ ?_;refine sts ?_
   exact⟨(i+1,(o::O)++[(y:Int)],c'),⟨⟨by simp at i1 ⊢<;>omega,zom,gI i3 e2,zom,hst⟩,zbo⟩,[_],[],[],[],ttt,
    ⟨zM,zM,zI zdd rfl zsm,zG rfl (by rw[mH];omega),zG rfl zom,zA⟩,⟨zH zdd rfl zsm (yZ fun _=>⟨rfl,zsm⟩) rfl,zA⟩,by simp[gH]⟩
  .refine cvd cl1 ?_
   refine cvd cl2 ?_;obtain⟨c',y,e1,e2⟩:∃ c' y,c+(lb xs i+lb ys i)=c'*4294967296+y/\y<4294967296:=⟨(c+(lb xs i+lb ys i))/4294967296,(c+(lb xs i+lb ys i))%4294967296,zom,zom⟩;have hst:=LF i1 i5 e1;refine sK ?_;rw[show((c:Int)+((lb xs i:Int)+(lb ys i:Int)))%4294967296=(y:Int) by omega];refine sts ?_;refine jU ⟨rfl,zsm,by simp at i1 ⊢<;>omega⟩ ?_;refine sts ?_
   exact⟨(i+1,(o::O)++[(y:Int)],c'),⟨⟨by simp at i1 ⊢<;>omega,zom,gI i3 e2,zom,hst⟩,zbo⟩,[_],[],[],[],ttt,
    ⟨zM,zM,zI zdd rfl zsm,zG rfl (by rw[mH];omega),zG rfl zom,zA⟩,⟨zH zdd rfl zsm (yZ fun _=>⟨rfl,zsm⟩) rfl,zA⟩,by simp[gH]⟩
  .have hv:nv ((o::O)++[(c:Int)])=nv xs+nv ys:=by rw[FG i1,i5,vU zom,vU zom]
   have cm:=jD ((o::O)++[(c:Int)]) (gI i3 zom) (by simp at i1 ⊢<;>omega);rw[hv]at cm;refine jU ⟨rfl,zsm,by simp at i1 ⊢<;>omega⟩ ?_;refine sts ?_;refine zT cm (yL (xP rfl zsm zsm (fun x=>qD x)) rfl) (sts ?_);exact yD
def LG   (h:O.length=i)(i5:nv O+nk ys i=nk xs i+pw i*c)(e:lb xs i+c'*4294967296=lb ys i+c+y) :
 nv (O++[(y:Int)])+nk ys (i+1)=nk xs (i+1)+pw (i+1)*c':=by
 rw[FG h,wV,wV,xX]
 have:pw i*c+pw i*y+pw i*lb ys i=4294967296*pw i*c'+pw i*lb xs i:=by
  rw[<- xH,<- xH,wC 4294967296,vF,<- xH]
  congr 1
  omega
 omega
def Xu   (h:O.length=i)(ho:okN O)(hc:c<2)(e:nv O+nk ys i=nk xs i+pw i*c)(hi:xs.length<=i)(hx:okN xs)(hle:nv ys<=nv xs):nv O=nv xs-nv ys:=by
 have h1:=sM hx;have h2:=qM hi;have h3:=lK ys i;have h4:=sM ho;rw[h]at h4;rw[vU hi]at e
 have h5:nt ys i=0:=by
  rcases EC (nt ys i) with z|z
  .exact z
  .have:=sI (pw i) z
   omega
 rw[h5]at h3;rcases(show c=0\/c=1 by omega) with rfl|rfl<;>omega
def QM(xs ys:List Int)(hx:okN xs)(hy:okN ys)(hl:xs.length<2147483647)(hl2:ys.length<2147483647):Fn 230 [zQ xs,zQ ys] (.data (iZ (nv xs) (nv ys))):=by
 have cc:=Xo xs ys hx hy zom zom;have hcmp:=IE (nv xs) (nv ys);refine fnV (mkO func230 ntmps230 results230) ?_;refine zT cc rfl ?_
 refine gob ?_ ?_<;>intro h
 .refine zL rfl ?_
  unfold iZ;rw[zE zom]
 refine xG hT (fun((i,O,c):Nat×List Int×Nat)=>[(0,zQ xs),(1,zQ ys),Xq 6 O,(7,.int .u64 c),(8,.int .i64 i)]) (fun(_,O,_)=>gH O) [] 1
  (fun(i,O,c)=>O.length=i/\i<=xs.length/\okN O/\c<2/\nv O+nk ys i=nk xs i+pw i*c) (fun(i,_,_)=>xs.length-i) (0,[],0) ⟨rfl,zom,aL,zom,by rw[rW,rW];rfl⟩ zdd zsm ?_ ?_
 .exact⟨[],[],[],[],ttt,⟨zM,zM,jW rfl,zD,zD,zA⟩,zA,by simp[gH]⟩
 intro⟨i,O,c⟩ ⟨i1,i2,i3,i4,i5⟩;have cl1:=Da xs (i:Int) hx zom zom;have cl2:=Da ys (i:Int) hy zom zom;rw[show((i:Int)).toNat=i from rfl]at cl1 cl2;have b1:=vA hx i;have b2:=vA hy i;rcases O with _|⟨o,O⟩
 ·refine gob ?_ ?_<;>intro h
  .refine cvd cl1 ?_
   refine zT cl2 rfl ?_
   refine gob ?_ ?_<;>intro h
   .obtain⟨b',y,eb,e1,e2⟩:∃ b' y,b'=1/\lb xs i+b'*4294967296=lb ys i+c+y/\y<4294967296:=⟨1,lb xs i+1*4294967296-(lb ys i+c),rfl,zom,zom⟩
    have hst:=LG i1 i5 e1
    exact⟨(i+1,[]++[(y:Int)],b'),⟨⟨by simp at i1 ⊢<;>omega,zom,gI i3 e2,zom,hst⟩,zbo⟩,[_],[],[],[],ttt,
     ⟨zM,zM,zI zdd rfl rfl,zG rfl zom,zG rfl zom,zA⟩,⟨zH zdd rfl yE (yZ fun _=>⟨rfl,zsm⟩) rfl,zA⟩,by simp[gH]⟩
   .obtain⟨b',y,eb,e1,e2⟩:∃ b' y,b'=0/\lb xs i+b'*4294967296=lb ys i+c+y/\y<4294967296:=⟨0,lb xs i+0*4294967296-(lb ys i+c),rfl,zom,zom⟩
    have hst:=LG i1 i5 e1
    exact⟨(i+1,[]++[(y:Int)],b'),⟨⟨by simp at i1 ⊢<;>omega,zom,gI i3 e2,zom,hst⟩,zbo⟩,[_],[],[],[],ttt,
     ⟨zM,zM,zI zdd rfl rfl,zG rfl zom,zG rfl zom,zA⟩,⟨zH zdd rfl yE (yZ fun _=>⟨rfl,zsm⟩) rfl,zA⟩,by simp[gH]⟩
  .have hO:=Xu (O:=[]) i1 i3 i4 i5 zom hx zom
   have cm:=jD [] i3 (by simp at i1 ⊢<;>omega);rw[hO]at cm;refine cvd cm ?_;refine zL rfl ?_;unfold iZ;rw[zB zom]
 ·refine gob ?_ ?_<;>intro h
  .refine cvd cl1 ?_
   refine zT cl2 rfl ?_
   refine gob ?_ ?_<;>intro h
   .obtain⟨b',y,eb,e1,e2⟩:∃ b' y,b'=1/\lb xs i+b'*4294967296=lb ys i+c+y/\y<4294967296:=⟨1,lb xs i+1*4294967296-(lb ys i+c),rfl,zom,zom⟩
    have hst:=LG i1 i5 e1;refine jU ⟨rfl,zsm,by simp at i1 ⊢<;>omega⟩ ?_;refine sts ?_
    exact⟨(i+1,(o::O)++[(y:Int)],b'),⟨⟨by simp at i1 ⊢<;>omega,zom,gI i3 e2,zom,hst⟩,zbo⟩,[_],[],[],[],ttt,
     ⟨zM,zM,zI zdd rfl zsm,zG rfl zom,zG rfl zom,zA⟩,⟨zH zdd rfl yE (yZ fun _=>⟨rfl,zsm⟩) rfl,zA⟩,by simp[gH]⟩
   .obtain⟨b',y,eb,e1,e2⟩:∃ b' y,b'=0/\lb xs i+b'*4294967296=lb ys i+c+y/\y<4294967296:=⟨0,lb xs i+0*4294967296-(lb ys i+c),rfl,zom,zom⟩
    have hst:=LG i1 i5 e1;refine jU ⟨rfl,zsm,by simp at i1 ⊢<;>omega⟩ ?_;refine sts ?_
    exact⟨(i+1,(o::O)++[(y:Int)],b'),⟨⟨by simp at i1 ⊢<;>omega,zom,gI i3 e2,zom,hst⟩,zbo⟩,[_],[],[],[],ttt,
     ⟨zM,zM,zI zdd rfl zsm,zG rfl zom,zG rfl zom,zA⟩,⟨zH zdd rfl yE (yZ fun _=>⟨rfl,zsm⟩) rfl,zA⟩,by simp[gH]⟩
  .have hO:=Xu (O:=(o::O)) i1 i3 i4 i5 zom hx zom
   have cm:=jD (o::O) i3 (by simp at i1 ⊢<;>omega);rw[hO]at cm;refine zT cm (yL (xP rfl rfl zsm (fun x=>qD x)) rfl) (sts ?_);refine zL rfl ?_;unfold iZ;rw[zB zom]
def IQ(A B:List Int)(ha:okN A)(hb:okN B)(hl:A.length<1073741823)(hl2:B.length<1073741823):Fn 178 [zQ A,zQ B] (.data (zQ (zJ (nv A*nv B)))):=by
 refine fnV (mkO func178 ntmps178 results178) ?_
 refine xG hT (fun((i,O):Nat×List Int)=>[(0,zQ A),(1,zQ B),(5,.own 0 0 (A.length+B.length+1)),(6,.int .i64 i)]) (fun(_,O)=>[(0,⟨O.map (.int .u32),1,false⟩)]) [] 1
  (fun(i,O)=>i<=A.length/\O.length=A.length+B.length+1/\okN O/\nv O=nk A i*nv B/\∀ j,i+B.length<=j->lb O j=0) (fun(i,_)=>A.length-i) (0,List.replicate (A.length+B.length+1) 0) ⟨zsm,zsm,dY _,by simp[HQ,rW],fun j _=>KO _ j⟩ zdd zsm ?_ ?_
 .exact⟨[_],[],[],[],ttt,⟨xI rfl rfl,xI rfl rfl,zI zdd rfl qK,zG rfl rfl,zA⟩,⟨zH zdd rfl (aM (f:=PV.int .u32) (x:=0) qK) (yZ fun _=>⟨rfl,zsm⟩) rfl,zA⟩,zO⟩
 intro⟨i,O⟩ ⟨hi,hO,hok,hv,hz⟩
 refine gob ?_ ?_<;>intro h
 .refine xG hT (fun((k,P,c):Nat×List Int×Nat)=>[(0,zQ A),(1,zQ B),(5,.own 0 0 (A.length+B.length+1)),(6,.int .i64 i),(7,.int .u64 c),(8,.int .i64 k)]) (fun(_,P,_)=>[(0,⟨P.map (.int .u32),1,false⟩)]) [] 1
   (fun(k,P,c)=>k<=B.length+1/\P.length=A.length+B.length+1/\okN P/\c<4294967296/\nv P+c*pw (i+k)=nv O+pw i*(lb A i*nk B k)/\(∀ j,i+B.length+1<=j->lb P j=0)/\(k<=B.length->lb P (i+B.length)=0)/\(k=B.length+1->c=0)) (fun(k,_,_)=>B.length+1-k) (0,O,0)
   ⟨zsm,hO,hok,zsm,by simp[rW],fun j hj=>hz j zom,fun _=>hz _ zom,fun _=>rfl⟩ zdd zsm ?_ ?_
  .exact⟨[0],[],[],[],ttt,⟨zM,zM,zI zdd rfl rfl,zD,zD,zD,zA⟩,⟨zH zdd rfl rfl (yZ fun _=>⟨rfl,zsm⟩) rfl,zA⟩,zO⟩
  intro⟨k,P,c⟩ ⟨hk,hP,hokP,hc,hvP,hzP,hzk,hck⟩;have cl:=Da B (k:Int) hb zom zom;rw[show((k:Int)).toNat=k from rfl]at cl;have ha1:0<=A[i]! /\ A[i]! < 4294967296:=nJ ha zom;have h1:=wF (show i<A.length by omega) ha;have hBk:=vA hb k;have hpr:0<=A[i]!*(lb B k:Int)/\A[i]!*(lb B k:Int)<=18446744065119617025:=Vo ha1 zom;have hPk:k<=B.length->0<=P[i+k]! /\ P[i+k]! < 4294967296:=fun h=>nJ hokP zom
  refine gob ?_ ?_<;>intro h
  .refine cvd cl ?_
   refine yB (i+k) zom zom ?_;have hP1:=hPk zom;have h3:=wF (show i+k<P.length by omega) hokP;obtain⟨s,hs⟩:∃ s,c+(lb A i*lb B k+lb P (i+k))=s:=⟨_,rfl⟩
   have hsI:(s:Int)=↑c+(A[i]!*(lb B k:Int)+P[i+k]!):=by
    rw[<- hs];simp only[Int.natCast_add,Int.natCast_mul,h1,h3]
   refine sts ?_;refine sK (sts ?_);refine yB (i+k) zom zom (sts ?_)
   refine⟨(k+1,P.set (i+k) ((s%4294967296:Nat):Int),s/4294967296),⟨⟨zom,by simp[hP],rV hokP _ zom,zom,?_,fun j hj=>by rw[KP zom];exact hzP j hj,fun hk2=>by rw[KP zom];exact hzk zom,fun hk2=>?_⟩,zbo⟩,[0],[],[],[],ttt,
    ⟨zM,zM,zI zdd rfl rfl,zD,zG rfl (by rw[mH,<- hsI];omega),zG rfl zom,zA⟩,⟨zH zdd rfl (x5 zom (by rw[<- hsI];omega)) (yZ fun _=>⟨rfl,zsm⟩) rfl,zA⟩,zO⟩
   .have e1:=Bd (a:=P) (j:=i+k) ((s%4294967296:Nat):Int) zom
    have e2:=C7 (pw (i+k)) s;rw[Int.toNat_natCast]at e1;rw[wV,show i+(k+1)=i+k+1 by omega,xX];rw[<- hs]at e1 e2 ⊢;simp only[xH,Ei]at e1 e2 hvP ⊢;simp only[wC,pO,vF]at e1 e2 hvP ⊢;omega
   .have hkB:k=B.length:=zom
    subst hkB;rw[Ba (zX _),hzk (zX _),Nat.mul_zero]at hs;omega
  .have hk1:k=B.length+1:=zom
   have hc0:=hck hk1;subst hc0
   exact⟨(i+1,P),⟨⟨zom,hP,hokP,by rw[hk1,wV,Ba (zX _),vU (a:=B) (zX _)]at hvP;simp only[Nat.mul_zero,Nat.add_zero,Ao]at hvP;rw[wV,w6,<- hv,vF];omega,fun j hj=>hzP j zom⟩,zbo⟩,[0],[],[],[],ttt,
    ⟨zM,zM,zI zdd rfl rfl,zG rfl zom,zA⟩,⟨zH zdd rfl rfl (yZ fun _=>⟨rfl,zsm⟩) rfl,zA⟩,zO⟩
 .have hi':i=A.length:=zom
  rw[hi',vU (a:=A) (zX _)]at hv;have ct:=jD O hok zom;rw[hv]at ct;refine zT ct (yL (xP rfl rfl zom (fun x=>qD x)) rfl) (sts ?_);exact yD
def Xv(xs:List Int)(hx:okN xs)(hl:xs.length<2147483647):Fn 256 [zQ xs] (.data (if nv xs<18446744073709551616 then .tup [.int .u64 (nv xs),.bool true] else .tup [.int .u64 0,.bool false])):=by
 have ct:=jD xs hx zom;have h2:=uC hx;have ha:=cA (nv xs);have hv:=yR (nv xs);generalize nv xs=N at *
 have hnil:zJ N=[]->N=0:=kS;generalize zJ N=A at *
 have p2:pw 2=18446744073709551616:=by rw[xX,xX,q8]
 have p1:pw 1=4294967296:=by rw[xX,q8]
 have hlt:=sM ha.1;refine fnV (mkO func256 ntmps256 results256) ?_;refine zT ct rfl ?_
 (refine gob ?_ ?_<;>intro h;rotate_left;refine gob ?_ ?_<;>intro h;rotate_left;refine gob ?_ ?_<;>intro h;rotate_right;rotate_right)
 .have:=hnil (vZ.1 zom)
  subst this;rw[zE zom];exact yD
 .have hl1:A.length=1:=zom
  have g:=wF (a:=A) (k:=0) zom ha.1;have b:=vA ha.1 0;have e:nv A=lb A 0:=by rw[<- vU (a:=A) (k:=1) zom,wV,rW,q8];omega
  have hA0:0<=A[0]! /\ A[0]! < 4294967296:=zom
  rw[zE zom];refine sts ?_;refine zL rfl ?_;rw[<- g,<- e,hv]
 .have hl1:A.length=2:=zom
  have g0:=wF (a:=A) (k:=0) zom ha.1;have b0:=vA ha.1 0;have g1:=wF (a:=A) (k:=1) zom ha.1;have b1:=vA ha.1 1;have e:nv A=lb A 0+4294967296*lb A 1:=by rw[<- vU (a:=A) (k:=2) zom,wV,wV,rW,q8,p1];omega
  have hA0:0<=A[0]! /\ A[0]! < 4294967296:=zom
  have hA1:0<=A[1]! /\ A[1]! < 4294967296:=zom
  have ee:tF .or .u64 A[0]! (A[1]!*vM .u64 32)=(N:Int):=by rw[PD hA1 hA0];omega
  rw[zE zom];refine sts ?_;refine wP (j:=1) rfl zom (sts ?_);refine lD ?_ ?_
  .rw[aK];omega
  refine sts ?_;refine zL rfl ?_;rw[ee]
 .have hge:=C0 ha (fun e=>by subst e;simp at *)
  have:=qM (show 2<=A.length-1 by omega);rw[zB zom];refine sts ?_;exact yD
def uHH(xs:List Int)(hx:okN xs)(hl:xs.length<2147483647):Fn 257 [zQ xs] (.data (.int .i64 (fW (nv xs)))):=by
 have h2:=uC hx;have hok:=yP (nv xs);refine fnV (mkO func257 ntmps257 results257) ?_;refine zT (jD xs hx zom) rfl ?_
 refine gob ?_ ?_<;>intro h
 .refine zL rfl ?_
  have:zJ (nv xs)=[]:=vZ.1 zom;have:=kS this;unfold fW;rw[zE this]
 .refine wP (j:=(zJ (nv xs)).length-1) qK zom ?_
  refine sts ?_;have hg:=wF (show(zJ (nv xs)).length-1<(zJ (nv xs)).length by omega) hok;have hlt:=vA hok ((zJ (nv xs)).length-1)
  have hne:nv xs≠0:=fun e=>by
   have:(zJ (nv xs)).length=0:=by rw[e];rfl
   omega
  have hbv:fW (nv xs)=32*((zJ (nv xs)).length-1:Nat)+bl (lb (zJ (nv xs)) ((zJ (nv xs)).length-1)):=by unfold fW;rw[zB hne]
  rw[hbv];generalize lb (zJ (nv xs)) ((zJ (nv xs)).length-1)=T at *
  refine rU hT (fun((n,t):Nat×Nat)=>[(3,.int .i64 n),(4,.int .u32 t)]) (fun(n,t)=>t<4294967296/\n+bl t=32*((zJ (nv xs)).length-1)+bl T) (fun(_,t)=>t) (32*((zJ (nv xs)).length-1),T) ⟨hlt,rfl⟩ ?_ ?_
  .exact⟨zG rfl qK,zG rfl hg.symm,zA⟩
  intro⟨n,t⟩ ⟨i1,i2⟩;have hT32:=(jY 32 T hlt zdd).2.2;have ht32:=(jY 32 t i1 zdd).2.2
  refine gob ?_ ?_<;>intro h
  .have hh:=cB (n:=t) zom zom
   have hf:(t:Int).fdiv (vM .u32 1)=((t/2:Nat):Int):=by rw[HX (j:=1) rfl];omega
   exact⟨(n+1,t/2),⟨⟨zom,zom⟩,by show t/2<t;omega⟩,zG rfl zom,zG rfl hf,zA⟩
  .have h0:t=0:=zom
   subst h0;rw[KT]at i2;refine zL rfl ?_
   congr 1
   omega
def uQL(xs:List Int)(hx:okN xs)(hl:xs.length<2147483646):Fn 258 [zQ xs,.int .i64 1] (.data (zQ (zJ (2*nv xs)))):=by
 refine yJ zU hT (mkO func258 ntmps258 results258) zsm ?_;have eq:(1:Int).tdiv 32=0:=rfl;have em:(1:Int).tmod 32=1:=rfl;refine sts ?_
 refine xG hT (fun((i,O,c):Nat×List Int×Nat)=>[(0,zQ xs),(1,.int .i64 1),(5,.own 0 0 i),(6,.int .u64 c),(7,.int .i64 i)]) (fun(_,O,_)=>[(0,⟨O.map (.int .u32),1,false⟩)]) [] 1
  (fun(i,O,c)=>O.length=i/\i<=xs.length/\okN O/\c<2/\nv O+pw i*c=2*nk xs i) (fun(i,_,_)=>xs.length-i) (0,[],0) ⟨rfl,zom,aL,zom,by rw[rW];rfl⟩ zdd zsm ?_ ?_
 .exact⟨[_],[],[],[],ttt,⟨xI rfl rfl,zG rfl rfl,zI zdd rfl rfl,zG rfl rfl,zG rfl rfl,zA⟩,⟨zH zdd rfl rfl zsm rfl,zA⟩,zO⟩
 intro⟨i,O,c⟩ ⟨i1,i2,i3,i4,i5⟩;have b1:=vA hx i;have hXi:i<xs.length->xs[i]! = (lb xs i:Int):=fun h=>(wF h hx).symm
 refine gob ?_ ?_<;>intro h
 .have hx1:=hXi zom
  have e2:vM .u64 1=2:=by rw[Eh zdd];rfl
  have eo:tF .or .u64 (c:Int) ((lb xs i:Int)*2)=((2*lb xs i+c:Nat):Int):=by
   have:=O9 (a:=lb xs i) (b:=c) (i:=1) zom zom;rw[show((2^1*lb xs i:Nat):Int)=(lb xs i:Int)*2 by omega]at this;rw[this]
  rw[hx1,em,e2];obtain⟨c',y,e1,e3⟩:∃ c' y,2*lb xs i+c=c'*4294967296+y/\y<4294967296:=⟨(2*lb xs i+c)/4294967296,(2*lb xs i+c)%4294967296,zom,zom⟩;refine lD zom (sts ?_);rw[eo];refine sK (sts ?_)
  refine⟨(i+1,O++[(y:Int)],c'),⟨⟨by simp[i1],zom,gI i3 e3,zom,?_⟩,zbo⟩,[_],[],[],[],ttt,
   ⟨zM,zD,zI zdd rfl zsm,zG rfl (by rw[mH];omega),zG rfl zom,zA⟩,⟨zH zdd rfl yE (yZ fun _=>⟨rfl,zsm⟩) rfl,zA⟩,zO⟩
  rw[FG i1,wV,xX]
  have:pw i*c+pw i*(2*lb xs i)=4294967296*pw i*c'+pw i*y:=by
   rw[<- xH,wC 4294967296,vF,<- xH]
   congr 1
   omega
  rw[pO]at this;omega
 .have hi:i=xs.length:=zom
  have hv:nv (O++[(c:Int)])=2*nv xs:=by rw[FG i1,i5,vU zom]
  have cm:=jD (O++[(c:Int)]) (gI i3 zom) yE;rw[hv]at cm;refine zT cm (yL (xP rfl zsm (by simp[i1]) (fun x=>qD x)) rfl) (sts ?_);exact yD
def uQ2(N:Nat):∃ m:Nat,fW N=m/\N<2^m/\m<=32*(zJ N).length:=by
 unfold fW;by_cases h:N=0
 .subst h;exact⟨0,rfl,zdd,zsm⟩
 .rw[zB h]
  have hn:zJ N≠[]:=fun e=>h (kS e)
  have hl:0<(zJ N).length:=CV.2 hn;have ho:=yP N;obtain⟨L,hL⟩:∃ L,(zJ N).length=L+1:=⟨(zJ N).length-1,zom⟩;rw[hL];have hlt:=vA ho L;have hb:=jY 32 _ hlt zdd;refine⟨32*L+bl (lb (zJ N) L),zsm,?_,zom⟩;have e:N=nk (zJ N) L+pw L*lb (zJ N) L:=by rw[<- wV,vU zom,yR]
  have h1:=dZ ho L;rw[iM,<- KZ];have h2:=sI (pw L) (show lb (zJ N) L+1<=2^bl (lb (zJ N) L) by omega);rw[xH]at h2;omega
def QN(xs ys:List Int)(hx:okN xs)(hy:okN ys)(hl:xs.length<2147483636)(hl2:ys.length<2147483636):Fn 232 [zQ xs,zQ ys] (.data (.tup [zQ (zJ (nv xs/nv ys)),zQ (if nv ys=0 then [] else zJ (nv xs%nv ys)),.int .i64 (if nv ys=0 then 3 else 0)])):=by
 have cu1:=Xv xs hx zom;have cu2:=Xv ys hy zom;have cb:=uHH xs hx zom;obtain⟨m0,em,hm1,hm2⟩:=uQ2 (nv xs);rw[em]at cb;have hm3:m0<=32*xs.length:=by have:=uC hx;omega
 refine fnV (mkO func232 ntmps232 results232) ?_;by_cases k1:nv xs<18446744073709551616<;>by_cases k2:nv ys<18446744073709551616
 all_goals first|rw[zE k1]at cu1|rw[zB k1]at cu1
 all_goals first|rw[zE k2]at cu2|rw[zB k2]at cu2
 all_goals (refine zT cu1 rfl ?_;refine sts ?_)
 all_goals (refine zT cu2 rfl ?_;(repeat' (first|refine stp ?_|with_reducible(refine brr ?_ ?_<;>intro h)));all_goals try(conv=>whnf))
 .have h0:nv ys=0:=zom
  refine zL rfl ?_;rw[h0,Nat.div_zero,zE rfl,zE rfl];rfl
 .have h0:nv ys≠0:=zom
  obtain⟨q,hq⟩:∃ q,q=nv xs/nv ys:=⟨_,rfl⟩;obtain⟨r,hr⟩:∃ r,r=nv xs%nv ys:=⟨_,rfl⟩;have e1:(nv xs:Int).tdiv (nv ys)=(q:Int):=by rw[hq];exact(Int.ofNat_tdiv ..).symm
  have e2:(nv xs:Int).tmod (nv ys)=(r:Int):=by rw[hr];exact(Int.ofNat_tmod ..).symm
  have b1:q<=nv xs:=hq ▸ gS ..;have b2:r<=nv xs:=hr ▸ Nat.mod_le ..;rw[e1];refine lD zom (sts ?_);refine zT (LD _ zom) rfl (sts ?_);rw[e2];refine zT (LD _ zom) rfl (sts ?_);refine zL rfl ?_;rw[zB h0,zB h0,<- hq,<- hr]
 rotate_left
 .have h0:nv ys=0:=zom
  refine zL rfl ?_;rw[h0,Nat.div_zero,zE rfl,zE rfl];rfl
 all_goals
  have hM:nv ys≠0:=zom
  refine cvd cb ?_
  refine xG hT (fun((m,Q,q,R):Nat×List Int×Nat×Nat)=>[(0,zQ xs),(1,zQ ys),(11,.own 0 0 xs.length),(12,zQ (zJ R)),(13,.int .i64 ((m:Int)-1))]) (fun(_,Q,_)=>[(0,⟨Q.map (.int .u32),1,false⟩)]) [] 1
   (fun(m,Q,q,R)=>m<=32*xs.length/\Q.length=xs.length/\okN Q/\nv Q=2^m*q/\nv xs/2^m=q*nv ys+R/\R<nv ys) (fun(m,_)=>m) (m0,List.replicate xs.length 0,0,0) ⟨hm3,zsm,dY _,by rw[HQ];rfl,by rw[Cc hm1];simp,zom⟩ zdd zsm ?_ ?_
  .exact⟨[28],[29],[(12,zQ (zJ 0))],[],⟨⟨⟨_,rfl⟩,zA⟩,⟨⟨4,[29],xP (f:=PV.int .u32) (l:=[]) rfl rfl rfl (fun x=>qD x),rfl⟩,zA⟩,zA⟩,
    ⟨zM,zM,zI zdd rfl qK,zM,zD,zA⟩,⟨zH zdd rfl (aM (f:=PV.int .u32) (x:=0) qK) (yZ fun _=>⟨rfl,zsm⟩) rfl,zA⟩,zO⟩
  intro⟨m,Q,q,R⟩ ⟨i1,i2,i3,i4,i5,i6⟩;have hR:R<pw ys.length:=Nat.lt_trans i6 (sM hy);have hRl:=sW hR
  refine gob ?_ ?_<;>intro h
  .have hm:1<=m:=zom
   obtain⟨j,hj⟩:∃ j,j=(m-1)/32:=⟨_,rfl⟩;obtain⟨s,hs⟩:∃ s,s=(m-1)%32:=⟨_,rfl⟩;have e3:((m:Int)-1).tdiv 32=(j:Int):=by rw[D9 zom];omega
   have e4:((m:Int)-1).tmod 32=(s:Int):=by rw[D8 zom];omega
   have c1:=uQL (zJ R) (yP R) zom;rw[yR]at c1;refine cvd c1 ?_;have b:=vA hx j;have hj2:j<xs.length:=zom
   have hg:=wF hj2 hx;refine wP (j:=j) (by rw[e3]) zom ?_;obtain⟨bit,hbit⟩:∃ bit,bit=nv xs/2^(m-1)%2:=⟨_,rfl⟩;have hb2:bit<2:=zom
   have hs2:s<32:=zom
   have eb:tF .and .u32 ((xs[j]!).fdiv (vM .u32 (((m:Int)-1).tmod 32))) 1=(bit:Int):=by
    rw[e4,<- hg,V6 zom,show((2:Int)^((s:Int).toNat))=((2^s:Nat):Int) by simp,F7 _ (Int.natCast_nonneg _),<- Int.natCast_ediv,uBZ (nB (gS ..) b),hbit,uVK hx,<- hj,<- hs]
   have hp1:pw (ys.length+1)=4294967296*pw ys.length:=xX _;have hl1:(zJ (2*R)).length<=ys.length+1:=sW zom;have ca:=Xt (zJ (2*R)) [(bit:Int)] (yP _) (okN_cons.2 ⟨zom,aL⟩) zom zsm;rw[yR,show nv [(bit:Int)]=bit by simp[nv]]at ca;obtain⟨X,hX⟩:∃ X,X=2*R+bit:=⟨_,rfl⟩;rw[<- hX]at ca;have hl3:(zJ X).length<=ys.length+1:=sW zom;have cc:=Xo (zJ X) ys (yP _) hy zom zom;have cs:=QM (zJ X) ys (yP _) hy zom zom;rw[yR]at cc cs
   have h5:nv xs/2^(m-1)=2*(nv xs/2^m)+bit:=by
    have:2^m=2^(m-1)*2:=by rw[<- Nat.pow_succ];congr 1;omega
    rw[this,<- M3];omega
   rw[i5,xH,<- vF]at h5
   have h4:nv Q=2^(m-1)*(2*q):=by
    have:2^m=2^(m-1)*2:=by rw[<- Nat.pow_succ];congr 1;omega
    rw[i4,this,vF]
   refine sts ?_;refine zT ca (yL rfl (yL (xP rfl (by rw[eb];rfl) rfl (fun x=>qD x)) rfl)) ?_;refine sts ?_;refine zT cc rfl ?_
   refine gob ?_ ?_<;>intro h
   .have hge:nv ys<=X:=by have:=(IE X (nv ys));omega
    unfold iZ at cs;rw[zB zom]at cs;refine cvd cs ?_;obtain⟨c,hc⟩:=uFL (i:=m-1) (q:=q) i3 (by rw[Nat.sub_add_cancel hm];exact i4);rw[<- hj,<- hs]at hc;have bQ:=vA i3 j;have hgQ:=wF (show j<Q.length by omega) i3;have ho:=uOE (s:=s) (c:=c) hs2 zom;refine yB j (by rw[e3];simp) zom ?_;refine sts ?_;obtain⟨p,hp⟩:∃ p,p=2^s:=⟨_,rfl⟩;rw[<- hp]at ho;have es:(1:Int)*vM .u32 (((m:Int)-1).tmod 32)=(p:Int):=by rw[e4,V6 zom,hp];simp
    have eo:tF .or .u32 (Q[j]!) (p:Int)=((lb Q j+p:Nat):Int):=by rw[<- hgQ,hc];exact ho.1
    rw[<- hc]at ho
    have hQ':nv (Q.set j ((lb Q j+p:Nat):Int))=2^(m-1)*(2*q+1):=by
     have h6:=Bd (a:=Q) (j:=j) ((lb Q j+p:Nat):Int) zom;rw[Int.toNat_natCast,xH]at h6;have h7:pw j*p=2^(m-1):=by rw[KZ,hp,<- iM];congr 1;omega
     rw[h7]at h6;rw[xH,fB,<- h4];omega
    have hok':okN (Q.set j ((lb Q j+p:Nat):Int)):=rV i3 j ⟨zom,zom⟩;rw[es];refine Gv zom (sts ?_);refine yB j (by rw[e3];simp) zom ?_;refine sts ?_
    exact⟨(m-1,Q.set j ((lb Q j+p:Nat):Int),2*q+1,X-nv ys),⟨⟨zom,by simp[i2],hok',hQ',by rw[w6];omega,zom⟩,by show m-1<m;omega⟩,[_],[],[],[],ttt,
     ⟨zM,zM,zI zdd rfl rfl,zM,zG rfl zom,zA⟩,⟨zH zdd rfl (x5 (by rw[e3];simp) eo) (yZ fun _=>⟨rfl,zsm⟩) rfl,zA⟩,zO⟩
   .have hge:X<nv ys:=by have:=(IE X (nv ys));omega
    exact⟨(m-1,Q,2*q,X),⟨⟨zom,i2,i3,h4,zom,hge⟩,by show m-1<m;omega⟩,[_],[],[],[],ttt,
     ⟨zM,zM,zI zdd rfl rfl,zM,zG rfl zom,zA⟩,⟨zH zdd rfl rfl (yZ fun _=>⟨rfl,zsm⟩) rfl,zA⟩,zO⟩
  .have h0:m=0:=zom
   subst h0;have cm:=jD Q i3 zom;rw[Nat.pow_zero,Nat.div_one]at i5;rw[Nat.pow_zero,Ch]at i4;refine zT cm (yL (xP rfl rfl zom (fun x=>qD x)) rfl) (sts ?_);refine zL rfl ?_;have e1:nv xs/nv ys=nv Q:=by rw[i5,i4,wC,Nat.mul_add_div zom,Cc i6];rfl
   have e2:nv xs%nv ys=R:=by rw[i5,wC,Nat.mul_add_mod,jQ i6]
   rw[zB hM,zB hM,e1,e2]
def uQM(xs ys:List Int)(hx:okN xs)(hy:okN ys)(hl:xs.length<2147483636)(hl2:ys.length<2147483636):Fn 231 [zQ xs,zQ ys] (.data (zQ (zJ (Nat.gcd (nv xs) (nv ys))))):=by
 have ct1:=jD xs hx zom;have ct2:=jD ys hy zom;have h1:=uC hx;have h2:=uC hy;generalize nv xs=P0 at *
 generalize nv ys=Q0 at *
 obtain⟨g,eg⟩:∃ g,Nat.gcd P0 Q0=g:=⟨_,rfl⟩;rw[eg];refine fnV (mkO func231 ntmps231 results231) ?_;refine cvd ct1 ?_;refine cvd ct2 ?_;refine rU hT (fun((P,Q):Nat×Nat)=>[(0,zQ (zJ P)),(1,zQ (zJ Q))]) (fun(P,Q)=>Nat.gcd P Q=g/\(zJ P).length<2147483636/\(zJ Q).length<2147483636) (fun(_,Q)=>Q) (P0,Q0) ⟨eg,zom,zom⟩ ?_ ?_
 .exact⟨zM,zM,zA⟩
 intro⟨P,Q⟩ ⟨i1,i2,i3⟩;have cd:=QN (zJ P) (zJ Q) (yP P) (yP Q) i2 i3;rw[yR,yR]at cd
 refine gob ?_ ?_<;>intro h
 .have hQ:Q≠0:=fun e=>by subst e;rw[d9]at h;simp at h
  rw[zB hQ,zB hQ]at cd;refine cvd cd ?_;have hm:=nZ P (show Q > 0 by omega);have hml:=DW (EL hm);exact⟨(Q,P%Q),⟨⟨by rw[K8];exact i1,i3,zom⟩,hm⟩,zM,zM,zA⟩
 .have hQ:Q=0:=kS (vZ.1 zom)
  subst hQ;rw[JU]at i1;subst i1;exact yD
def FH(b:Bool)(xs:List Int)(hx:okN xs)(hl:xs.length<2147483646):Fn 112 [.bool b,zQ xs] (.data (vI (cz (sg b (nv xs))))):=by
 rw[PG];have ct:=jD xs hx zom;have hz:zJ (nv xs)=[]↔nv xs=0:=⟨kS,fun h=>by rw[h];rfl⟩;refine fnV (mkO func112 ntmps112 results112) ?_;refine zT ct rfl ?_
 refine gob ?_ ?_<;>intro h
 .refine zL rfl ?_
  subst h;have:(0<(zJ (nv xs)).length)↔nv xs≠0:=by rw[CV,ne_eq,hz]
  simp[vI,this]
 .subst h
  exact yD
def IR(x:Int)(hx:-9223372036854775808<=x/\x<9223372036854775808):Fn 44 [.int .i64 x] (.data (vI (cz x))):=by
 have hle:x.natAbs<pw 2:=by rw[xX,xX,q8];omega
 have hl:=sW hle;refine yJ zU hT (mkO func44 ntmps44 results44) zsm ?_
 refine gob ?_ ?_<;>intro h
 .refine dX ?_
  refine sts ?_;refine dX ?_;have e:(0-x%18446744073709551616)%18446744073709551616=((x.natAbs:Nat):Int):=zom
  refine sts ?_;rw[e];refine cvd (LD x.natAbs zom) ?_;have cm:=FH true (zJ x.natAbs) (yP _) zom;rw[yR,show sg true x.natAbs=x by unfold sg;rw[zE rfl];omega]at cm;refine cvd cm ?_;exact yD
 .refine zT (LD x.natAbs zom) (by rw[Int.natAbs_of_nonneg zom];rfl) ?_
  refine sts ?_;have cm:=FH false (zJ x.natAbs) (yP _) zom;rw[yR,show sg false x.natAbs=x by unfold sg;rw[zB zdd];omega]at cm;refine cvd cm ?_;exact yD
def Xw(x:IntL)(hx:okN x.mag)(hl:x.mag.length<2147483646):Fn 106 [vI x] (.data (.int .i64 (iv x).sign)):=by
 have cm:=FH x.neg x.mag hx zom;have hz:zJ (nv x.mag)=[]↔nv x.mag=0:=⟨kS,fun h=>by rw[h];rfl⟩;rw[PG]at cm;unfold iv;rw[PH];refine yJ zU hT (mkO func106 ntmps106 results106) (by simp[vI]) (sts ?_);refine zT cm rfl ?_
 (refine gob ?_ ?_<;>intro h;rotate_left;refine gob ?_ ?_<;>intro h;rotate_right)
 .refine zL rfl ?_
  rw[zE (hz.1 (vZ.1 zom))]
 .refine zL rfl ?_
  rw[zB h.2,h.1,zE rfl]
 .have hn:nv x.mag≠0:=fun e=>by rw[hz.2 e]at *;simp at *
  have hb:x.neg=false:=by simpa [hn]using h
  refine zL rfl ?_;rw[zB hn,hb];rfl
def uQN (x y : IntL) (hx : okN x.mag) (hy : okN y.mag) (hl:x.mag.length<2147483644) (hl2:y.mag.length<2147483644):Fn 180 [vI x,vI y] (.data (vI (cz (iv x+iv y)))):=by
 have ca:=Xt x.mag y.mag hx hy zom zom;have cs1:=QM x.mag y.mag hx hy zom zom;have cs2:=QM y.mag x.mag hy hx zom zom;refine yJ zU hT (mkO func180 ntmps180 results180) (by simp[vI]) ?_
 refine gob ?_ ?_<;>intro h
 .refine cvd ca ?_
  have cm:=FH x.neg (zJ (nv x.mag+nv y.mag)) (yP _) (by have:=uC hx;have:=Xd hx hy;omega);rw[yR]at cm;refine cvd cm ?_;refine zL rfl ?_;rw[show iv x+iv y=sg x.neg (nv x.mag+nv y.mag) by unfold iv;rw[<- h];unfold sg;split<;>omega];rfl
 .by_cases hlt:nv x.mag<nv y.mag
  .unfold iZ at cs1 cs2
   rw[zE hlt]at cs1;rw[zB zom]at cs2;refine cvd cs1 ?_;refine cvd cs2 ?_;have cm:=FH y.neg (zJ (nv y.mag-nv x.mag)) (yP _) (by have:=K9 hy (n:=nv y.mag-nv x.mag) zom;omega);rw[yR]at cm;refine cvd cm ?_;refine zL rfl ?_
   rw [show iv x + iv y = sg y.neg (nv y.mag - nv x.mag) by have:x.neg=!y.neg:=by(cases hh:x.neg<;>cases hh':y.neg<;>simp_all)
                                                            unfold iv;rw[this,Ek];unfold sg;split<;>omega]
   rfl
  .unfold iZ at cs1
   rw[zB zom]at cs1;refine cvd cs1 ?_;have cm:=FH x.neg (zJ (nv x.mag-nv y.mag)) (yP _) (by have:=K9 hx (n:=nv x.mag-nv y.mag) zom;omega);rw[yR]at cm;refine cvd cm ?_;refine zL rfl ?_
   rw [show iv x + iv y = sg x.neg (nv x.mag - nv y.mag) by have:y.neg=!x.neg:=by(cases hh:x.neg<;>cases hh':y.neg<;>simp_all)
                                                            unfold iv;rw[this,Ek];unfold sg;split<;>omega]
   rfl
def IU{d:List Int}(h:okN d):(zJ (dn d)).length<=d.length+1:=sW (PL h (Jf _) zom)
def IV(d:List Int)(hd:okN d)(hl:d.length<2147483636):Fn 179 [zQ d] (.data (zQ (zJ (dn d)))):=by
 have cm:=jD d hd zom;have h2:=uC hd;refine fnV (mkO func179 ntmps179 results179) ?_;refine zT cm rfl ?_
 refine gob ?_ ?_<;>intro h
 .have:nv d=0:=kS (vZ.1 zom)
  refine zL rfl ?_;rw[dn,zE this];rfl
 .have:nv d≠0:=fun e=>h (by rw[e];rfl)
  refine zL rfl ?_;rw[dn,zB this]
def LH(b:Bool)(xs ys:List Int)(hx:okN xs)(hy:okN ys)(h0:nv ys≠0)(hl:xs.length<2147483626)(hl2:ys.length<2147483626):Fn 181 [.bool b,zQ xs,zQ ys] (.data (zR (cr (mkRat (sg b (nv xs)) (nv ys))))):=by
 have h1:=uC hx;have h2:=uC hy;have hone:∀ n,zJ n=[1]↔n=1:=fun n=>⟨fun h=>by rw[<- yR n,h];rfl,fun h=>by rw[h];rfl⟩
 have hnil:∀ n,zJ n=[]↔n=0:=fun n=>⟨kS,fun h=>by rw[h];rfl⟩
 rw[PK _ _ h0];have cg:=uQM xs ys hx hy zom zom;have hg0:Nat.gcd (nv xs) (nv ys)≠0:=fun e=>h0 (TZ e)
 have hg3:Nat.gcd (nv xs) (nv ys) ∣ nv xs:=GU ..;have hgl:(zJ (Nat.gcd (nv xs) (nv ys))).length<=(zJ (nv ys)).length:=DW (Nat.gcd_le_right _ zom);generalize Nat.gcd (nv xs) (nv ys)=G at *
 have cd1:=QN xs (zJ G) hx (yP _) zom zom;have cd2:=QN ys (zJ G) hy (yP _) zom zom;rw[yR,zB hg0,zB hg0]at cd1 cd2;have hl3:(zJ (nv ys/G)).length<=(zJ (nv ys)).length:=DW (gS ..)
 have hN0:nv xs/G=0↔nv xs=0:=by
  obtain⟨k,hk⟩:=hg3;rw[hk,Mw _ zom];constructor
  .intro e;rw[e];rfl
  .intro e;rcases Nat.mul_eq_zero.1 e with e|e
   .exact absurd e hg0
   .exact e
 generalize nv xs/G=A at *
 generalize nv ys/G=B at *
 have hA:=hnil A;have hB:=hone B;have hl4:(zJ A).length=0↔A=0:=by rw[vZ,hA]
 have hbA:(b&&decide (nv xs≠0))=(b&&decide ((zJ A).length > 0)):=by congr 1;rw[bW];omega
 rw[hbA];have hbB:(if B=1 then [] else zJ B)=(if zJ B=[1] then [] else zJ B):=by simp only[hB]
 rw[hbB];generalize zJ A=LA at *
 generalize zJ B=LB at *
 have hLB:LB=[1]↔((LB.length:Int)=1/\LB[0]! = 1):=by
  constructor
  .intro e;subst e;simp
  .rintro⟨e1,e2⟩
   obtain⟨x,rfl⟩:=JN.1 (show LB.length=1 by omega)
   simpa using e2
 refine fnV (mkO func181 ntmps181 results181) ?_;refine cvd cg ?_;refine cvd cd1 ?_;refine zT cd2 rfl ?_
 (refine gob ?_ ?_<;>intro h;refine gob ?_ ?_<;>intro h;refine gob ?_ ?_<;>intro h;rotate_left 2;refine gob ?_ ?_<;>intro h;rotate_right 2;rotate_left 4;refine gob ?_ ?_<;>intro h;rotate_right 4)
 all_goals
  refine zL rfl ?_;by_cases e:LB=[1]
  .rw[zE e]
   first|exact absurd (hLB.1 e).1 xU|exact absurd (hLB.1 e).2 xU|(subst h;simp[zR])
  .rw[zB e]
   first|exact absurd (hLB.2 ⟨by assumption,xU⟩) e|(subst h;simp[zR])
def QO(x:RatL)(hx:okR x)(hl:x.num.length<2147483616)(hl2:x.den.length<2147483616):Fn 182 [zR x] (.data (zR (cr (qv x)))):=by
 have cu:=IV x.den hx.2 zom;have hl3:=IU hx.2;have cq:=LH x.neg x.num (zJ (dn x.den)) hx.1 (yP _) (by rw[yR];exact s5 _) zom zom;rw[yR]at cq;refine yJ zU hT (mkO func182 ntmps182 results182) (by simp[zR]) (sts ?_);refine cvd cu ?_;refine cvd cq ?_;exact yD
def Xx(x y:RatL)(hl1:x.num.length<2147483646)(hl2:x.den.length<2147483646)(hl3:y.num.length<2147483646)(hl4:y.den.length<2147483646):Fn 12 [zR x,zR y] (.data (.bool (decide (x=y)))):=by
 have c1:=Xp x.num y.num zom zom;have c2:=Xp x.den y.den zom zom;have n1:x=y↔x.neg=y.neg/\x.num=y.num/\x.den=y.den:=by cases x;cases y;simp
 refine yJ zU hT (mkO func12 ntmps12 results12) (by simp[zR]) ?_
 refine gob ?_ ?_<;>intro h
 .refine zT c1 rfl ?_
  refine gob ?_ ?_<;>intro h
  .refine cvd c2 ?_
   refine zL rfl (zV PV.bool ?_);rw[bW,n1]
   simp_all
  .refine zL rfl (zV PV.bool ?_)
   exact(qL fun e=>h (n1.1 e).2.1).symm
 .refine zL rfl (zV PV.bool ?_)
  exact(qL fun e=>h (n1.1 e).1).symm
def Xy(x:RatL)(hx:okR x)(hl:x.num.length<2147483616)(hl2:x.den.length<2147483616):Fn 246 [zR x] (.data (.bool (decide (x=cr (qv x))))):=by
 have cc:=QO x hx hl hl2;have hL:=yO (kT hx (k:=max (max x.num.length x.den.length) 1) zom zom zom);have cs:=Xx x (cr (qv x)) zom zom zom zom;refine yJ zU hT (mkO func246 ntmps246 results246) (by simp[zR]) (sts ?_);refine cvd cc ?_;refine cvd cs ?_;exact yD
def Db(x:Int)(hx:-9223372036854775808<=x/\x<9223372036854775808):Fn 16 [.int .i64 x] (.data (zR (cr x))):=by
 refine fnV (mkO func16 ntmps16 results16) ?_;refine cvd (IR x hx) ?_;refine zL rfl ?_;simp[zR,cr,cz];exact bW.2 Au
def Xz(x y:IntL)(hx:okN x.mag)(hy:okN y.mag)(h0:nv y.mag≠0)(hl:x.mag.length<2147483616)(hl2:y.mag.length<2147483616):Fn 208 [vI x,vI y] (.data (.tup [zR (cr (mkRat (sg (x.neg != y.neg) (nv x.mag)) (nv y.mag))),.int .i64 0])):=by
 have cs:=Xw y hy zom;have cq:=LH (x.neg != y.neg) x.mag y.mag hx hy h0 zom zom;have hs:(iv y).sign≠0:=by unfold iv;rw[PH,zB h0];split<;>decide
 refine yJ zU hT (mkO func208 ntmps208 results208) (by simp[vI]) (sts ?_);refine zT cs rfl ?_
 refine gob ?_ ?_<;>intro h
 .exact absurd h hs
 refine cvd cq ?_;exact yD
def X0(x y:Int)(hx:-9223372036854775808<=x/\x<9223372036854775808)(hy:0<y/\y<9223372036854775808):Fn 159 [.int .i64 x,.int .i64 y] (.data (.tup [zR (cr (mkRat x y.natAbs)),.int .i64 0])):=by
 have hle:x.natAbs<pw 2:=by rw[xX,xX,q8];omega
 have hle2:y.natAbs<pw 2:=by rw[xX,xX,q8];omega
 have hl:=sW hle;have hl2:=sW hle2;have cm:=Xz (cz x) (cz y) (yP _) (yP _) (by show nv (zJ _)≠0;rw[yR];omega) (by show(zJ _).length<_;omega) (by show(zJ _).length<_;omega)
 rw[show sg ((cz x).neg != (cz y).neg) (nv (cz x).mag)=x by
  rw[show(cz y).neg=false by unfold cz;simp;omega,show((cz x).neg != false)=(cz x).neg by simp]
  exact iV x,show nv (cz y).mag=y.natAbs from yR _]at cm
 refine fnV (mkO func159 ntmps159 results159) ?_;refine cvd (IR x hx) ?_;refine cvd (IR y zom) ?_;refine cvd cm ?_;exact yD
def IW(x:RatL)(hx:okR x)(hl:x.num.length<2147483636):Fn 39 [zR x] (.data (.int .i64 (xQ (qv x)))):=by
 have cs:=Xw ⟨x.neg,x.num⟩ hx.1 (by show x.num.length<_;omega);rw[KY];refine yJ zU hT (mkO func39 ntmps39 results39) (by simp[zR]) (sts ?_);refine cvd cs ?_;exact yD
def X3(x:RatL)(hx:okR x)(hl:x.num.length<2147483616)(hl2:x.den.length<2147483616):Fn 108 [zR x] (.data (zR (cr (- qv x)))):=by
 have cc:=QO ⟨!x.neg,x.num,x.den⟩ hx hl hl2;rw[show qv ⟨!x.neg,x.num,x.den⟩=- qv x by unfold qv;rw[NU,Ek]]at cc;refine yJ zU hT (mkO func108 ntmps108 results108) (by simp[zR]) (sts ?_);refine cvd cc ?_;exact yD
def aY(x y:RatL)(hx:okR x)(hy:okR y)(hl1:x.num.length<1000000000)(hl2:x.den.length<1000000000)(hl3:y.num.length<1000000000)(hl4:y.den.length<1000000000):Fn 107 [zR x,zR y] (.data (zR (cr (qv x+qv y)))):=by
 have cu1:=IV x.den hx.2 zom;have cu2:=IV y.den hy.2 zom;have u1:=IU hx.2;have u2:=IU hy.2;have k1:=FD (z:=nv x.num) hx.1 (Int.natAbs_natCast _) hy.2 (zX _);have k2:=FD (z:=nv y.num) hy.1 (Int.natAbs_natCast _) hx.2 (zX _);rw[<- Int.natCast_mul,Int.natAbs_natCast]at k1 k2;have m1:=IQ x.num (zJ (dn y.den)) hx.1 (yP _) zom zom;have m2:=IQ y.num (zJ (dn x.den)) hy.1 (yP _) zom zom;have cm:=IQ (zJ (dn x.den)) (zJ (dn y.den)) (yP _) (yP _) zom zom;rw[yR]at m1 m2;rw[yR,yR]at cm;have ca:=uQN ⟨x.neg,zJ (nv x.num*dn y.den)⟩ ⟨y.neg,zJ (nv y.num*dn x.den)⟩ (yP _) (yP _) (by show(zJ _).length<_;omega) (by show(zJ _).length<_;omega);unfold iv at ca;simp only[yR,uLV]at ca;rw[V3]
 have kl:(zJ (sg x.neg (nv x.num)*(dn y.den:Nat)+sg y.neg (nv y.num)*(dn x.den:Nat)).natAbs).length<2000000010:=by
  obtain⟨K,hK⟩:∃ K:Nat,K=2000000003:=⟨_,rfl⟩;have e0:(sg x.neg (nv x.num)*(dn y.den:Nat)).natAbs=nv x.num*dn y.den:=by rw[dG,iU,Int.natAbs_natCast]
  have e0':(sg y.neg (nv y.num)*(dn x.den:Nat)).natAbs=nv y.num*dn x.den:=by rw[dG,iU,Int.natAbs_natCast]
  have e1:(sg x.neg (nv x.num)*(dn y.den:Nat)).natAbs<pw K:=by
   have:=sM (yP (nv x.num*dn y.den));rw[yR]at this;rw[e0];exact w9 this (qM zom)
  have e2:(sg y.neg (nv y.num)*(dn x.den:Nat)).natAbs<pw K:=by
   have:=sM (yP (nv y.num*dn x.den));rw[yR]at this;rw[e0'];exact w9 this (qM zom)
  have e3:=xX K;have:=sW (n:=(sg x.neg (nv x.num)*(dn y.den:Nat)+sg y.neg (nv y.num)*(dn x.den:Nat)).natAbs) (k:=K+1) zom;omega
 have hd:dn x.den*dn y.den≠0:=Al (s5 _) (s5 _)
 have k4:(zJ (dn x.den*dn y.den)).length<=x.den.length+y.den.length+2:=by
  have:=aV (oF hx.2) (oF hy.2);rw[o5,o5]at this;have:=iD x.den;have:=iD y.den;omega
 generalize sg x.neg (nv x.num)*(dn y.den:Nat)+sg y.neg (nv y.num)*(dn x.den:Nat)=S at *
 generalize dn x.den*dn y.den=D at *
 have cq:=LH (cz S).neg (cz S).mag (zJ D) (yP _) (yP _) (by rw[yR];exact hd) (by show(zJ _).length<_;omega) zom;rw[show sg (cz S).neg (nv (cz S).mag)=S from iV S,yR]at cq;refine yJ zU hT (mkO func107 ntmps107 results107) (by simp[zR]) (sts ?_);refine cvd cu2 ?_;refine cvd m1 ?_;refine cvd cu1 ?_;refine cvd m2 ?_;refine cvd ca ?_;refine cvd cu1 ?_;refine cvd cu2 ?_;refine cvd cm ?_;refine cvd cq ?_;exact yD
def uQK(x y:RatL)(hx:okR x)(hy:okR y)(hl1:x.num.length<999999999)(hl2:x.den.length<999999999)(hl3:y.num.length<999999999)(hl4:y.den.length<999999999):Fn 40 [zR x,zR y] (.data (zR (cr (qv x-qv y)))):=by
 have cn:=X3 y hy zom zom;have hL:=yO (cE (kT hy (k:=max (max y.num.length y.den.length) 1) zom zom zom));have ca:=aY x (cr (- qv y)) hx (yH _) zom zom zom zom;rw[yC,<- NG]at ca;refine yJ zU hT (mkO func40 ntmps40 results40) (by simp[zR]) (sts ?_);refine cvd cn ?_;refine cvd ca ?_;exact yD
def QQ(x y:RatL)(hx:okR x)(hy:okR y)(hl1:x.num.length<1000000000)(hl2:x.den.length<1000000000)(hl3:y.num.length<1000000000)(hl4:y.den.length<1000000000):Fn 110 [zR x,zR y] (.data (zR (cr (qv x*qv y)))):=by
 have cu1:=IV x.den hx.2 zom;have cu2:=IV y.den hy.2 zom;have u1:=IU hx.2;have u2:=IU hy.2;have cm:=IQ (zJ (dn x.den)) (zJ (dn y.den)) (yP _) (yP _) zom zom;have cn:=IQ x.num y.num hx.1 hy.1 zom zom;rw[yR,yR]at cm;have k3:=aV hx.1 hy.1
 have k4:(zJ (dn x.den*dn y.den)).length<=x.den.length+y.den.length+2:=by
  have:=aV (oF hx.2) (oF hy.2);rw[o5,o5]at this;have:=iD x.den;have:=iD y.den;omega
 have hd:dn x.den*dn y.den≠0:=Al (s5 _) (s5 _);have cq:=LH (x.neg != y.neg) (zJ (nv x.num*nv y.num)) (zJ (dn x.den*dn y.den)) (yP _) (yP _) (by rw[yR];exact hd) zom zom;rw[yR,yR,KX,<- V4]at cq;refine yJ zU hT (mkO func110 ntmps110 results110) (by simp[zR]) (sts ?_);refine cvd cn ?_;refine cvd cu1 ?_;refine cvd cu2 ?_;refine cvd cm ?_;refine cvd cq ?_;exact yD
def IX(x y:RatL)(hx:okR x)(hy:okR y)(hl1:x.num.length<999999999)(hl2:x.den.length<999999999)(hl3:y.num.length<999999999)(hl4:y.den.length<999999999):Fn 11 [zR x,zR y] (.data (.int .i64 (xQ (qv x-qv y)))):=by
 have cs:=uQK x y hx hy hl1 hl2 hl3 hl4;have hL:=yO (pU (kT hx (k:=999999999) zom zom zom) (cE (kT hy (k:=999999999) zom zom zom)));rw[<- NG]at hL;have cg:=IW (cr (qv x-qv y)) (yH _) zom;rw[yC]at cg;refine yJ zU hT (mkO func11 ntmps11 results11) (by simp[zR]) (sts ?_);refine cvd cs ?_;refine cvd cg ?_;exact yD
def X4(f:AffL)(n:Int)(hf:okA 2147483596 f):Fn 206 [x8 f,.int .i64 n] (.data (.bool (kU f n))):=by
 obtain⟨hc,ht,hl⟩:=hf;refine yJ zU hT (mkO func206 ntmps206 results206) (by simp[x8]) (sts ?_)
 refine xG hT (fun(i:Nat)=>[(1,.int .i64 n),(2,.ptr 0 0 0),(5,.int .i64 i)]) (fun _=>[(0,⟨[x8 f],4,true⟩)]) [] 1
  (fun i=>i<=f.terms.length/\∀ j,j<i->okT f.terms n j) (fun i=>f.terms.length-i) 0 ⟨z8 _,fun j h=>zom⟩ zdd zsm ?_ ?_
 .exact⟨[0],[],[],[],ttt,⟨zD,apx,zD,zA⟩,⟨bbx,zA⟩,zO⟩
 intro i ⟨i1,i2⟩;have hcv:=Xy f.const hc.1 (by have:=hc.2;omega) (by have:=hc.2;omega);by_cases hi:i<f.terms.length
 .have hq:=V7 (f:=f) ⟨hc,ht,hl⟩ hi
  have cs:=IW f.terms[i]!.coef hq.1 (by have:=hq.2;omega);have cv:=Xy f.terms[i]!.coef hq.1 (by have:=hq.2;omega) (by have:=hq.2;omega)
  (refine gob ?_ ?_<;>intro h;refine gob ?_ ?_<;>intro h;rotate_left;refine gob ?_ ?_<;>intro h;rotate_left;refine gob ?_ ?_<;>intro h;rotate_right;rotate_right)
  .exact zL rfl (zV PV.bool (kV (i:=i) zom fun e=>by have:=e.1;omega))
  .exact zL rfl (zV PV.bool (kV (i:=i) zom fun e=>by have:=e.2.1;omega))
  .refine wP (j:=i-1) zom zom ?_
   refine gob ?_ ?_<;>intro h
   .exact zL rfl (zV PV.bool (kV (i:=i) zom fun e=>by have:=e.2.2.1 zom;omega))
   refine zT cs rfl ?_
   refine gob ?_ ?_<;>intro h
   .exact zL rfl (zV PV.bool (kV (i:=i) zom fun e=>e.2.2.2.1 (sgnQ_zero.1 h)))
   .refine zT cv rfl ?_
    refine gob ?_ ?_<;>intro h
    .refine⟨i+1,⟨⟨zom,fun j hj=>?_⟩,zbo⟩,[0],[],[],[],ttt,⟨zD,apx,zG rfl zom,zA⟩,⟨bbx,zA⟩,zO⟩
     rcases Ae (Ah hj) with hj|rfl
     .exact i2 j hj
     .exact⟨zom,zom,fun h0=>by omega,fun e=>by have:=sgnQ_zero.2 e;omega,h⟩
    .exact zL rfl (zV PV.bool (kV (i:=i) zom fun e=>h e.2.2.2.2))
  .refine zT cs rfl ?_
   refine gob ?_ ?_<;>intro h
   .exact zL rfl (zV PV.bool (kV (i:=i) zom fun e=>e.2.2.2.1 (sgnQ_zero.1 h)))
   .refine zT cv rfl ?_
    refine gob ?_ ?_<;>intro h
    .refine⟨i+1,⟨⟨zom,fun j hj=>?_⟩,zbo⟩,[0],[],[],[],ttt,⟨zD,apx,zG rfl zom,zA⟩,⟨bbx,zA⟩,zO⟩
     rcases Ae (Ah hj) with hj|rfl
     .exact i2 j hj
     .exact⟨zom,zom,fun h0=>by omega,fun e=>by have:=sgnQ_zero.2 e;omega,h⟩
    .exact zL rfl (zV PV.bool (kV (i:=i) zom fun e=>h e.2.2.2.2))
  .omega
 ·(refine gob ?_ ?_<;>intro h;refine gob ?_ ?_<;>intro h;rotate_left;refine gob ?_ ?_<;>intro h;rotate_left;refine gob ?_ ?_<;>intro h;rotate_right;rotate_right)
  all_goals try omega
  refine cvd hcv ?_;exact zL rfl (zV PV.bool (V8 fun j hj=>i2 j zom))
end Go.PI.Tryz
