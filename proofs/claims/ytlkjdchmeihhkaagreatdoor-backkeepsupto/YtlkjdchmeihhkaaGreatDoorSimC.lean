import Derived.Test.YtlkjdchmeihhkaaGreatDoorSimB
import Derived.Laws.StructEq
import Derived.Lib.ConvBytes
import Derived.Laws.BytesString
import Derived.ClaimOpenTies
import Derived.Leaving
import Derived.Laws.IdiomRangeMap
import Derived.Laws.Strings
set_option linter.all false
set_option autoImplicit true
set_option relaxedAutoImplicit true
set_option autoImplicit true
set_option relaxedAutoImplicit true
namespace Go.Sim
open Go
section
variable {P:Program} {ops:Array Oper} {Q:Exit→Act→World→Prop} {rest:List Oper} {F0:Fz} {n:Nat} {E:List (Nat×SV)} {L:List bx}
variable {d:Nat} {op:Op} {ty:TypeId} {pos:String} {aft:Array Edge} {s:SV}
def Oh (P:Program) (u:TypeId):Bool:=match P.underlying u with|some (.slice _)|some .string=>true|_=>false
theorem sF (h:Oh P u=true):(∃e,P.underlying u=some (.slice e))∨P.underlying u=some .string:=by unfold Oh at h;split at h;rename_i e he;exact .inl ⟨_,he⟩;rename_i he;exact .inr he;cases h
theorem DD {i:TypeInfo} {z:Value} (ht:P.underlying t=some (.slice e)) (hu:Oh P u=true) (hi:P.info? e=some i) (hz:i.zero=some z) {w:World} {a:List Value} (hv:rL P w i.size v m a) (h0:0<m) (f:(m:Int)≤9223372036854775807) (g:m*i.bytes≤281474976710656):(Builtin.append_ #[t,u] ty #[.slice none 0 0,v]).run P w= .ok (.slice (some ⟨w.heap.size,0,none⟩) m (grownCap w m 0 e)) (w.drew.alloc (.cells (a.toArray++Builtin.zeroCells z.cells (grownCap w m 0 e - m)) e)):=by(have hn:m≠0:=by omega);(have b:¬(9223372036854775807<(m:Int)):=by omega);(have c:¬(281474976710656<Builtin.nextslicecap m 0*i.bytes):=by rw[nextslicecap_zero h0];omega);have hf:=hv.cells w.drew rfl m (GZ _);rw[←hv.nl,Hf] at hf;have d:=hv.len w;rcases sF hu with⟨e',hu⟩|hu<;>simp[Builtin.append_,GO ht,GO hu,sizeOf,typeInfo,zeroValue,hi,hz,d,hn,b,c,Question.forced,run_firstCells_none,hf,newRow,grownCap]
theorem DE {u:TypeId} {i:TypeInfo} (ht:P.underlying t=some (.slice e)) (hu:Oh P u=true) (hi:P.info? e=some i) {b:Array Value} {w:World} (hg:w.heap[g]? =some (.cells b e (0,0))) {a:List Value} (hv:rL P w i.size v m a) (h1:∀u∈a,u.oneCell'=true) (hr:sLen+m≤sCap) (d:sLen*i.size+a.length≤b.size):(Builtin.append_ #[t,u] ty #[.slice (some ⟨g,0,none⟩) sLen sCap,v]).run P w= .ok (.slice (some ⟨g,0,none⟩) (sLen+m) sCap) (w.setRow g (b.toList.take (sLen*i.size)++a++b.toList.drop (sLen*i.size+a.length)).toArray):=by have hf:=hv.cells w rfl m (GZ _);rw[←hv.nl,Hf] at hf;have f:=hv.len w;have c:=run_storeCells_at P g (sLen*i.size) e a 0 b w hg (by simpa using d) h1;simp only[IP] at c;(have h:(⟨g,0,none⟩:Addr).add (sLen*i.size)=⟨g,sLen*i.size,none⟩:=by rw[Hh,G5]);rcases sF hu with⟨e',hu⟩|hu<;>simp[Builtin.append_,GO ht,GO hu,sizeOf,typeInfo,hi,f,hr,hf,h,c]
theorem DF {i:TypeInfo} {z:Value} (ht:P.underlying t=some (.slice e)) (hu:Oh P u=true) (hi:P.info? e=some i) (hz:i.zero=some z) {w:World} {b:Addr} {olds:List Value} (g:olds.length=sLen*i.size) (holds:∀j v,olds[j]? =some v→w.cell? (b.add j)=some v) {a:List Value} (hv:rL P w i.size v m a) (hg:sCap<sLen+m) (l:((sLen+m:Nat):Int)≤9223372036854775807) (k:Builtin.nextslicecap (sLen+m) sCap*i.bytes≤281474976710656):(Builtin.append_ #[t,u] ty #[.slice (some b) sLen sCap,v]).run P w= .ok (.slice (some ⟨w.heap.size,0,none⟩) (sLen+m) (grownCap w (sLen+m) sCap e)) (w.drew.alloc (.cells (olds.toArray++a.toArray++Builtin.zeroCells z.cells (grownCap w (sLen+m) sCap e - (sLen+m))) e)):=by(have hn:¬(sLen+m≤sCap):=by omega);(have c:¬(9223372036854775807<((sLen:Int)+(m:Int))):=by omega);(have d:¬(281474976710656<Builtin.nextslicecap (sLen+m) sCap*i.bytes):=by omega);have hf:=hv.cells w.drew rfl m (GZ _);rw[←hv.nl,Hf] at hf;have f:=hv.len w;have h:=JT (P:=P) w.drew i.size sLen b sLen sCap olds g (by simpa using holds);rcases sF hu with⟨e',hu⟩|hu<;>(simp[Builtin.append_,GO ht,GO hu,sizeOf,typeInfo,zeroValue,hi,hz,f,hn,c,d,Question.forced,hf,h,newRow,grownCap];congr 2;apply Array.ext';simp[GW])
theorem Bg {α:Type} {K:Kd α} {z:α} {bytes:Nat} {t u e:TypeId} {v:Value} {xs ys:List α} {F:Fz} {h:bM} {w:World} (hroom:xs.length+ys.length≤dC) (hT:P.underlying t=some (.slice e)) (hu:Oh P u=true) (he:AT P e K z bytes)
   (hh:(bx.own K v e xs).holds F h) (hon:∀b o,h b=some o→w.heap[b]? =some o) {src:Value} {news:List Value} (hv:rL P w K.n src ys.length news) (hnr:cr K F news ys) (hn1:∀u∈news,u.oneCell'=true):
   ∃v' w' h',(Builtin.append_ #[t,u] ty #[v,src]).run P w= .ok v' w'∧(bx.own K v' e (xs++ys)).holds F h'∧PR w w' h∧(∀b,h' b≠none→h b≠none∨w.heap.size≤b)∧(∀b o,h' b=some o→w'.heap[b]? =some o):=by
 obtain⟨ie,zv,h1,h2,h3,h4,h5,h6,h7⟩:=he.out
 have hzs:zv.cells.size=K.n:=by have:=K.len (h7 F);simpa using this
 have hbytes:(xs.length+ys.length)*ie.bytes≤140737488355328:=by
   have:(xs.length+ys.length)*ie.bytes≤dC*4096:=Jy hroom (by omega)
   unfold dC at this;omega
 have hmax:xs.length+ys.length≤maxLen:=by unfold dC at hroom;simp only[maxLen];omega
 have hsmall:xs.length+ys.length≤9223372036854775807:=by simp only[maxLen] at hmax;omega
 have hlen:(xs++ys).length=xs.length+ys.length:=by simp
 have hnl:news.length=ys.length*K.n:=hv.nl
 rw[←h3] at hv
 by_cases hy:ys.length=0
 · have:ys=[]:=G1 hy
   subst this
   have hl0:=hv.len w
   have hc0:=hv.cells w rfl 0 (GZ _)
   simp only[JY,Ia] at hc0
   simp only[Ha] at hl0
   refine⟨v,w,h,?_,by simpa using hh,⟨rfl,rfl,rfl,λ_ _ _=>rfl⟩,λb hb=> .inl hb,hon⟩
   rcases hh with⟨rfl,rfl,_⟩|⟨g,cap,cur,rfl,_,h8,_⟩
   · rcases sF hu with⟨e',hud⟩|hud<;>simp[Builtin.append_,GO hT,GO hud,sizeOf,typeInfo,h1,hl0,hc0]
   · rcases sF hu with⟨e',hud⟩|hud<;>simp[Builtin.append_,GO hT,GO hud,sizeOf,typeInfo,h1,hl0,hc0,h8,storeCells]
 · have fresh:∀(old:Nat) (olds:List Value),cr K F olds xs→old<xs.length+ys.length→
       (bx.own K (.slice (some ⟨w.heap.size,0,none⟩) (xs.length+ys.length) (grownCap w (xs.length+ys.length) old e)) e (xs++ys)).holds F
         (bM.one w.heap.size (.cells (olds.toArray++news.toArray++Builtin.zeroCells zv.cells (grownCap w (xs.length+ys.length) old e - (xs.length+ys.length))) e (0,0))):=by
     intro old olds ho hlt
     have hge:=grownCap_ge w (xs.length+ys.length) old e
     have hcm:grownCap w (xs.length+ys.length) old e≤maxLen:=grownCap_le_maxLen w (xs.length+ys.length) old e hmax
     have hol:=ho.len
     refine .inr ⟨w.heap.size,_,_,by rw[hlen],rfl,by rw[hlen];exact hge,hcm,?_,?_⟩
     · simp only[Array.size_append,H3,size_zeroCells,hzs,hol,hnl,←Ij]
       congr 1;omega
     · rw[hlen]
       simp only[Array.toList_append]
       have e1:(olds++news).length=(xs.length+ys.length)*K.n:=by rw[GD,hol,hnl,Ij]
       rw[←e1,HW];exact ho.append hnr
   have alloc:∀(cells:Array Value),PR w (w.drew.alloc (.cells cells e)) h∧(∀b,bM.one w.heap.size (.cells cells e (0,0)) b≠none→h b≠none∨w.heap.size≤b)∧
       (∀b o,bM.one w.heap.size (.cells cells e (0,0)) b=some o→(w.drew.alloc (.cells cells e)).heap[b]? =some o):=by
     intro cells
     obtain⟨a1,a2⟩:=lB w (.cells cells e)
     exact⟨⟨rfl,rfl,rfl,λb hb _=>Jg w _ b hb⟩,λb hb=> .inr (a1 b hb),a2⟩
   rcases hh with⟨rfl,rfl,rfl⟩|⟨g,cap,cur,rfl,rfl,a3,a4,a5,a6⟩
   · have hr:=DD (ty:=ty) hT hu h1 h2 hv (by omega) (by simp only[Ha] at hmax;omega) (by have hb:=hbytes;simp only[Ha,G5] at hb;omega)
     have hf:=fresh 0 [] rfl (by simp;omega)
     simp only[Ha,G5,Io,GS] at hf⊢
     exact⟨_,_,_,hr,hf,alloc _⟩
   · have hg:=hon g _ (J8 _ _)
     by_cases hr:xs.length+ys.length≤cap
     · have hfit:xs.length*ie.size+news.length≤cur.size:=by rw[hnl,h3,a5,←Ij];exact GI _ hr
       have hrun:=DE (ty:=ty) hT hu h1 hg hv hn1 hr hfit
       refine⟨_,_,bM.one g (.cells (cur.toList.take (xs.length*ie.size)++news++cur.toList.drop (xs.length*ie.size+news.length)).toArray e (0,0)),hrun,.inr ⟨g,cap,_,by rw[hlen],rfl,by rw[hlen];exact hr,a4,?_,?_⟩,
         ⟨rfl,rfl,rfl,λk _ hn=>setRow_other w g k _ (λe=>by rw[e,J8] at hn;cases hn)⟩,λb hb=> .inl ?_,λb o e'=>?_⟩
       · simp only[H3,GD,G4,Hj,HL]
         omega
       · rw[hlen]
         have e1:(cur.toList.take (xs.length*ie.size)++news).length=(xs.length+ys.length)*K.n:=by
           rw[GD,G4,hnl,h3,Ij]
           have:xs.length*K.n≤cur.toList.length:=by simp only[HL,a5];exact GI _ a3
           omega
         rw[←e1,HW,h3];exact a6.append hnr
       · by_cases hbg:b=g
         · subst hbg;rw[J8];simp
         · exact absurd (KM _ hbg) hb
       · obtain⟨rfl,rfl⟩:=KI e';exact setRow_heap w b cur _ e _ hg
     · have holds:∀j u,(cur.toList.take (xs.length*K.n))[j]? =some u→w.cell? ((⟨g,0,none⟩:Addr).add j)=some u:=fun j u hu=>by
         have hj:j<xs.length*K.n:=by have:=(GC.1 hu).1;rw[a6.len] at this;exact this
         rw[Hh,G5,IU w g j cur e (0,0) hg]
         rw[GY hj] at hu;simpa using hu
       have hrun:=DF (ty:=ty) hT hu h1 h2 (b:=⟨g,0,none⟩) (sLen:=xs.length) (sCap:=cap) (olds:=cur.toList.take (xs.length*K.n)) (by rw[h3];exact a6.len) holds hv (by omega) (by omega) (growslice_fits (by omega) hbytes)
       have hf:=fresh cap _ a6 (by omega)
       exact⟨_,_,_,hrun,hf,alloc _⟩
theorem Np {α:Type} {K:Kd α} {z:α} {bytes:Nat} {t u e:TypeId} {v:Value} {xs ys:List α} {F:Fz} {w:World} (f:xs.length+ys.length≤dC) (hT:P.underlying t=some (.slice e)) (hu:Oh P u=true) (he:AT P e K z bytes) (h:St F w (.own K v e xs::L)) {g:Value} {a:List Value} (hv:rL P w K.n g ys.length a) (i:cr K F a ys) (j:∀u∈a,u.oneCell'=true):∃v' w',(Builtin.append_ #[t,u] ty #[v,g]).run P w= .ok v' w'∧St F w' (.own K v' e (xs++ys)::L):=by obtain⟨f0,hh,c,d⟩:=h;have k:∀b o,f0 b=some o→w.heap[b]? =some o:=λb o e=>d.on.blk b o (by have:=c b (by simp[e]);simp[Fz.add,this,e]);obtain⟨v',w',h',r1,r2,r3,r4,r5⟩:=Bg (P:=P) (ty:=ty) f hT hu he hh k hv i j;refine⟨v',w',r1,h',r2,λb hb=>?_,d.change c r3 r4 r5⟩;rcases r4 b hb with x|x;exact c b x;cases e:F.blk b with|none=>rfl|some o=>have:=fQ (d.on.blk b o ((F.le_add f0).blk b o e));omega
theorem Mi {α:Type} {K:Kd α} {z:α} {bytes:Nat} {t u e:TypeId} {S V:Operand} {v:Value} {xs ys zs:List α} (hz:Go.Sim.app xs ys=some zs) (hT:P.underlying t=some (.slice e)) (hu:Oh P u=true) (he:AT P e K z bytes) (hS:ev E S=some (.raw v)) (hV:ev E V=some s) (hr:Src P s K ys) (hd:Nat.blt d n=true) (k:∀v',aC F0 n ((d,.raw v')::E) (.own K v' e zs::L) (wpList P g Q f)):aC F0 n E (.own K v e xs::L) (wpList P g Q (⟨some d,.call ⟨.builtin .append,#[S,V],#[t,u]⟩,ty,pos,aft,none⟩::f)):=Kq rfl λF a w h0 hE c=>by obtain⟨b,rfl⟩:=wt hz;obtain⟨h,e1,e2,e3⟩:=hr.out c.on (hE.eval hV);obtain⟨v',w',r1,hS'⟩:=Np (P:=P) (ty:=ty) b hT hu he c e1 e2 e3;unfold Oper.wp;simp only[execOp,resolve,invoke,builtin,GK,GR,GE,HM,G6,If,hE.raw hS,r1,Oper.upon];exact k v' F _ _ h0 (hE.put hd (by simp only[SV.ok])) hS'
def xL (P:Program) (f:FuncId) (a:List SV) (L:List bx) {C:Type} (s:C→SV) (L':C→List bx):Prop:=∀F w vs,SV.oks F vs a→St F w L→Calls P f vs.toArray w λe w'=>∃y G v,e= .returned v∧F≤G∧St G w' (L' y)∧(s y).ok G v
theorem Oe (h:Ok P f a L s L'):xL P f a L (λ_:Unit=>s) (λ_=>L'):=λF w vs h1 h2=>(h F w vs h1 h2).mono λe w' ⟨G,v,h⟩=>⟨(),G,v,h⟩
theorem Kj {f:FuncId} {X:Operand} {xs:List Operand} {g:Array TypeId} {l:List SV} {C:Type} {s:C→SV} {L':C→List bx} (hc:∀b w,(callFunc f b).run P w= .ok (.enter f b) w) (hX:ev E X=some (.raw (.func (.func f) #[] #[]))) (hx:QS E xs=some l) (ho:xL P f l L s L') (hd:Nat.blt d n=true) (k:∀y,aC F0 n ((d,s y)::E) (L' y) (wpList P h Q c)):aC F0 n E L (wpList P h Q (⟨some d,.call ⟨.value X,xs.toArray,g⟩,ty,pos,aft,none⟩::c)):=Kq rfl λF a w h0 hE hS=>by have hv:=LM hE hx;have h1:=ho F w _ hv hS;unfold Oper.wp;simp only[execOp,resolve,hE.raw hX,Deferred.ofValue,invoke,HM,GK,GR,GE,Io,IW];rw[hc];exact h1.mono λe w' ⟨y,G,v,he,hg,hS',i⟩=>by subst he;exact k y G _ _ (Lk h0 hg) ((hE.mono hg).put hd i) hS'
theorem xL.intro {f:FuncId} {fn:Func} {c:Code} {a:List SV} {C:Type} {s:C→SV} {L':C→List bx} (m:Nat) (E0:List (Nat×SV)) (hf:P.funcs[f]? =some fn) (hb:fn.body=some c) (hn:fn.ntmps=m) (hl:Nat.ble a.length m=true) (hE:Pg 0 a=E0) (k:∀F0,aC F0 m E0 L (c.wp P (bodyPost P fn λe w'=>∃y G v,e= .returned v∧F0≤G∧St G w' (L' y)∧(s y).ok G v))):xL P f a L s L':=λF w vs hv hS=>by refine calls_of_wp hf hb ?_;have d:=my hv;have g:=HS hl;(have he:fn.ntmps - vs.toArray.size=m - a.length:=by simp[hn,d]);rw[he];(have h2:a.length+(m - a.length)=m:=by omega);have b:=MQ hv (m - a.length);rw[h2,hE] at b;exact k F F _ w (LO F) b hS
def KO:=@xL.intro
inductive tN (P:Program) (E:List (Nat×SV)):List ResultVar→List SV→Prop where
 |nil:tN P E [] []
 |tm {u:Nat} {s:SV} {l:List ResultVar} {ss:List SV} (h:look E u=some s) (r:tN P E l ss):tN P E (.tmp u::l) (s::ss)
 |ce {α:Type} {K:Kd α} {u T:Nat} {x:α} {l:List ResultVar} {ss:List SV} (h:look E u=some (.ptr K x)) (hT:KT P T K) (r:tN P E l ss):tN P E (.cell u T::l) (.val K x::ss)
def lJ:List SV→SV|[s]=>s|l=> .tup l
def Pb (a:Act):ResultVar→Sem Value
 | .tmp t=>pure (a.tmps.getD t undef)
 | .cell b t=>do loadVar t (←asAddr (a.tmps.getD b undef))
theorem tN.run {F:Fz} {a:Act} (hE:Env F a n E) (hS:F.on w):∀{l:List ResultVar} {ss:List SV},tN P E l ss→∃vs:List Value,(l.mapM (Pb a)).run P w= .ok vs w∧SV.oks F vs ss|_,_,.nil=>⟨[],by simp,by simp only[SV.oks]⟩|_,_,.tm h r=>by obtain⟨v,h1,h2⟩:=hE.at_ _ _ h;obtain⟨vs,h3,h4⟩:=tN.run hE hS r;refine⟨v::vs,?_,by simp only[SV.oks];exact⟨h2,h4⟩⟩;(have e:∀u,a.tmps[u]? =some v→(Pb a (.tmp u)).run P w= .ok v w:=λu hu=>by simp[Pb,Jb,hu]);simp only[J0,GK,GR,e _ h1,GE,h3]|_,_,.ce h hT r=>by obtain⟨v,h1,h2⟩:=hE.at_ _ _ h;obtain⟨vs,h3,h4⟩:=tN.run hE hS r;simp only[SV.ok] at h2;obtain⟨p,rfl,hp⟩:=h2;obtain⟨u,hu,hk⟩:=EQ hT hS hp;refine⟨u::vs,?_,by simp only[SV.oks,SV.ok];exact⟨hk,h4⟩⟩;(have e:∀u' T,a.tmps[u']? =some (.pointer (some p))→(loadVar T p).run P w= .ok u w→(Pb a (.cell u' T)).run P w= .ok u w:=λu' T b hl=>by simp[Pb,Jb,b,asAddr,hl]);simp only[J0,GK,GR,e _ _ h1 hu,GE,h3]
theorem tN.results {F:Fz} {a:Act} {fn:Func} {l:List ResultVar} (hr:fn.results=l.toArray) (hE:Env F a n E) (hS:F.on w) (h:tN P E l ss):∃v,(Go.results fn a.tmps).run P w= .ok v w∧(lJ ss).ok F v:=by
 obtain⟨vs,h1,h2⟩:=tN.run hE hS h
 have hl:=my h2
 have he:Go.results fn a.tmps=(do let vs←fn.results.mapM (Pb a);pure (if h:vs.size=1 then vs[0] else .tuple vs)):=by
  unfold Go.results
  congr 1
 have h3:(fn.results.mapM (Pb a)).run P w= .ok vs.toArray w:=by
  rw[hr,List.mapM_toArray,Sem.run_map,h1];rfl
 refine⟨if h:vs.toArray.size=1 then vs.toArray[0] else .tuple vs.toArray,by rw[he];simp only[GK,h3,GE,GR],?_⟩
 match vs,ss,h2 with
 |[],[],_=>simp only[lJ,SV.ok];exact⟨[],by simp,by simp only[SV.oks]⟩
 |[v],[s],h2=>simp only[lJ];simp only[SV.oks] at h2;simpa using h2.1
 |v::u::vs,s::t::ss,h2=>simp only[lJ,SV.ok];exact⟨v::u::vs,by simp,h2⟩
 |[],_::_,h2=>simp only[SV.oks] at h2
 |_::_,[],h2=>simp only[SV.oks] at h2
 |[_],_::_::_,h2=>simp only[SV.oks] at h2;exact absurd h2.2 (by simp[SV.oks])
 |_::_::_,[_],h2=>simp only[SV.oks] at h2;exact absurd h2.2 (by simp[SV.oks])
theorem MF {fn:Func} {l:List ResultVar} (hr:fn.results=l.toArray) (h:tN P E l ss) (he:lJ ss=s) (hL:L=L'):aC F0 n E L (bodyPost P fn (λe w'=>∃G v,e= .returned v∧F0≤G∧St G w' L'∧s.ok G v) .ret):=λF a w h0 hE hS=>by subst he;subst hL;obtain⟨v,h1,h2⟩:=h.results hr hE hS.on;exact⟨hE.defers,v,h1,F,v,rfl,h0,hS,h2⟩
theorem KA {fn:Func} {l:List ResultVar} {ss:List SV} {C:Type} {s:C→SV} {L':C→List bx} (y:C) (hr:fn.results=l.toArray) (h:tN P E l ss) (he:lJ ss=s y) (hL:L=L' y):aC F0 n E L (bodyPost P fn (λe w'=>∃y G v,e= .returned v∧F0≤G∧St G w' (L' y)∧(s y).ok G v) .ret):=λF a w h0 hE hS=>by obtain⟨v,h1,h2⟩:=h.results hr hE hS.on;exact⟨hE.defers,v,h1,y,F,v,rfl,h0,hL▸hS,he▸h2⟩
theorem Lw {x:Code} (hX:ev E X=some (.raw (.bool true))) (k:aC F0 n E L (x.wp P Q)):aC F0 n E L ((Code.cond X x y).wp P Q):=KZ hX (λ_=>k) (λh=>by cases h)
theorem KX {y:Code} (hX:ev E X=some (.raw (.bool false))) (k:aC F0 n E L (y.wp P Q)):aC F0 n E L ((Code.cond X x y).wp P Q):=KZ hX (λh=>by cases h) (λ_=>k)
theorem CN {m:Nat} (hj:ul J [(d,s)] E=true):∀t v,look ((d,s)::E) t=some v→look ((d,s)::J++E) t=some v:=by intro t v h;rw[cZ] at h;rw[HU,cZ];split at h;rename_i hk;rw[Hv hk];exact h;rename_i hk;rw[Hu hk,pQ];(have:look [(d,s)] t=none:=by rw[cZ,Hu hk];rfl);rw[wq hj this h];exact h
theorem Nq (m:Nat) {E1:List (Nat×SV)} (he:s'=s) (hj:ul (E1.take m) [(d,s)] (E1.drop m)=true) (k:aC F0 n ((d,s)::E1.drop m) L X):aC F0 n ((d,s')::E1) L X:=by subst he;refine Mn (λt v h=>?_) k;have:=CN (m:=m) hj t v h;rwa [HU,Hn] at this
theorem N4 (m:Nat) {E1:List (Nat×SV)} (he:s'=s) (hj:ul (E1.take m) [(d,s)] (E1.drop m)=true) (k:bS F n ((d,s)::E1.drop m) X):bS F n ((d,s')::E1) X:=by subst he;intro a hE;refine k a (hE.sub λt v h=>?_);have:=CN (m:=m) hj t v h;rwa [HU,Hn] at this
end
end Go.Sim
namespace Go.Sim
open Go
section
variable {P:Program} {ops:Array Oper} {Q:Exit→Act→World→Prop} {rest:List Oper} {F0:Fz} {n:Nat} {E:List (Nat×SV)} {L:List bx}
variable {d:Nat} {op:Op} {ty:TypeId} {pos:String} {aft:Array Edge} {s:SV}
theorem Mc (h:∀F a,Env F a n E→∀w G,F≤G→St G w L→(execOp a.eval o).run P w= .ok (.value v) w):dH P n E L o (.raw v):=λF a hE=>⟨v,by simp only[SV.ok],λw ⟨G,hg,hS⟩=>by unfold Oper.quietAt;rw[h F a hE w G hg hS];exact⟨rfl,rfl⟩⟩
theorem N5 {K:Kd α} {i:Int} (hb:wJ r R b K0 x) (p:At K0 x off (bC m K) xs up) (hi:idx xs i=some z) (hT:P.underlying T=some (.array m e)) (hs:(P.info? e).map (·.size)=some K.n) (hX:ev E X=some (.raw (.pointer (some ⟨b,off,none⟩)))) (hI:ev E I=some (.raw (.int q i))):dH P n E (r::L) ⟨some d,.indexAddr T X I,ty,pos,aft,none⟩ (.raw (.pointer (some ⟨b,off+i.toNat*K.n,none⟩))):=Mc λF a hE w G hg hS=>by obtain⟨h,hh,hon⟩:=hS.head;obtain⟨cs,post,e,rfl,c,_⟩:=hb.out hh;obtain⟨_,hm,_⟩:=p.get c;obtain⟨h0,h1,_⟩:=iA hi;simp[execOp,hE.raw hX,hE.raw hI,pP hT hs h0 (by omega) (p:=⟨b,off,none⟩) rfl w]
theorem Ko {K:Kd α} {xs:List α} {i:Int} (hx:idx xs i=some x) (hT:P.underlying T=some (.slice e)) (hs:(P.info? e).map (·.size)=some K.n) (hX:ev E X=some (.raw v)) (hI:ev E I=some (.raw (.int q i))):dH P n E (.own K v e' xs::L) ⟨some d,.indexAddr T X I,ty,pos,aft,none⟩ (.raw (.pointer (some ⟨pW v,0+i.toNat*K.n,none⟩))):=Mc λF a hE w G hg hS=>by obtain⟨b,h1,_⟩:=iA hx;obtain⟨f,hf,_⟩:=hS;have hv:=hE.raw hX;rcases hf with⟨rfl,rfl,_⟩|⟨g,cap,cur,rfl,_⟩;simp at h1;omega;have hr:=pO (P:=P) hT hs (p:=⟨g,0,none⟩) (m:=xs.length) (c:=cap) (q:=q) b h1 rfl w;simp[execOp,hv,hE.raw hI,hr,pW]
theorem KL {xs:List α} (ht:P.underlying t=some (.slice e)) (hX:ev E X=some (.raw v)):dH P n E (.own K v e' xs::L) ⟨some d,.call ⟨.builtin .len,#[X],#[t]⟩,ty,pos,aft,none⟩ (.raw (.int .i64 xs.length)):=Mc λF a hE w G hg hS=>by obtain⟨f,hf,_⟩:=hS;have hv:=hE.raw hX;rcases hf with⟨rfl,rfl,_⟩|⟨g,cap,cur,rfl,_⟩<;>simp[execOp,resolve,invoke,builtin,Builtin.len_,GO ht,hv,goInt]
theorem MG {p:Option Addr} (hg:P.underlying T=some (.pointer T')) (hb:b= .eql∨b= .neq) (hX:ev E X=some (.raw (.pointer p))):dH P n E L ⟨some d,.binOp b T X (.const (.pointer none)) u,ty,pos,aft,none⟩ (.raw (.bool (if b= .eql then p.isNone else p.isSome))):=KJ λF a hE w=>by have h2:a.eval (.const (.pointer none))= .pointer none:=rfl;(have c:P.underlying T=some (.pointer (P.pointee T)):=by simp[Program.pointee,hg]);rw[execOp];simp only[hE.raw hX,h2,eqGuard];rcases hb with rfl|rfl;simp[run_eql_pointer_nil w T p c];cases p<;>simp[run_neq_pointer_nil w T _ c]
theorem Ki (hX:ev E X=some (.raw v)) (hv:∃p,v= .pointer (some p)):dH P n E L ⟨some d,.nilCheck X,ty,pos,aft,none⟩ (.raw v):=KJ λF a hE w=>by obtain⟨p,rfl⟩:=hv;simp[execOp,hE.raw hX]
theorem MX {K0:Kd β} {K:Kd α} (hn:K.n=K0.n) (hT:(P.info? T).map (·.size)=some K.n) (hX:ev E X=some (.raw (.pointer (some ⟨b,0,none⟩)))) (hV:ev E V=some s) (hr:dK s K y) (k:aC F0 n E (.box K b T0 y::L) (wpList P j Q g)):aC F0 n E (.box K0 b T0 x::L) (wpList P j Q (⟨none,.store T X V,ty,pos,aft,none⟩::g)):=Kq rfl λF a w h0 hE hS=>by have hv:=hr F _ (hE.eval hV);obtain⟨h,⟨cs,l,rfl⟩,hon⟩:=hS.head;have e:w.heap[b]? =some (.cells cs.toArray T0 (0,0)):=hon b _ (J8 _ _);have hl:=K0.len l;obtain⟨w',hrun,c,hc⟩:=m5 (P:=P) hT e (v:=a.eval V) (off:=0) hv.sizeEq (K.one hv.rd) (by omega);have e0:cs.drop (0+K.n)=[]:=Ir (by omega);rw[e0] at c;simp only[Ia,GS,HY] at c;(have m:St F w' (.box K b T0 y::L):=hS.turn λh2 p i=>by obtain⟨q,_,rfl⟩:=p;have d:=i b _ (J8 _ _);rw[e] at d;have hq:=Option.some.inj d;simp only[Obj.cells.injEq,Je] at hq;have:=List.toArray_inj hq;subst this;refine⟨_,⟨_,hv.rd,rfl⟩,hc,λk hk=> .inl ?_,λk o eo=>?_⟩;by_cases f:k=b;subst f;rw[J8];simp;exact absurd (KM _ f) hk;obtain⟨rfl,rfl⟩:=KI eo;exact c);unfold Oper.wp;simp only[execOp,hE.raw hX,GK,hrun,GE,GR,Oper.upon];exact k F _ _ h0 hE m
def Sp (F:Fz) {β γ:Type} (x:β) (x':Value→γ):List (dN β)→List (dN γ)→Prop|[],[]=>True|f::fs,f'::a=>(∀v cs,f.K.rd F cs (f.get x)→f'.K.rd F cs (f'.get (x' v)))∧Sp F x x' fs a|_,_=>False
def Rx (F:Fz) {β γ:Type} (x:β) (x':Value→γ):List (dN β)→List (dN γ)→Nat→Prop|[],_,_=>False|_,[],_=>False|f::fs,f'::a,0=>(∀cs,f.K.rd F cs (f.get x)→∃v:Value,f'.K.rd F cs (f'.get (x' v))∧v.oneCell'=true)∧Sp F x x' fs a|f::fs,f'::a,i+1=>(∀v cs,f.K.rd F cs (f.get x)→f'.K.rd F cs (f'.get (x' v)))∧Rx F x x' fs a i
theorem Sp.rd:∀{fs:List (dN β)} {fs':List (dN γ)} {cs:List Value},Sp F x x' fs fs'→pD F fs cs x→pD F fs' cs (x' v)|[],[],_,_,h=>h|f::fs,f'::fs',_,⟨h1,h2⟩,⟨c,d,e,a,b⟩=>⟨c,d,e,h1 v c a,Sp.rd h2 b⟩|[],_::_,_,h,_=>h.elim|_::_,[],_,h,_=>h.elim
theorem Rx.rd:∀{fs:List (dN β)} {fs':List (dN γ)} {i:Nat} {cs:List Value},Rx F x x' fs fs' i→pD F fs cs x→∃v:Value,pD F fs' cs (x' v)∧v.oneCell'=true|[],_,_,_,h,_=>h.elim|_::_,[],_,_,h,_=>h.elim|f::fs,f'::fs',0,_,⟨h1,h2⟩,⟨c,d,e,a,b⟩=>by obtain⟨v,h3,h4⟩:=h1 c a;exact⟨v,⟨c,d,e,h3,Sp.rd h2 b⟩,h4⟩|f::fs,f'::fs',i+1,_,⟨h1,h2⟩,⟨c,d,e,a,b⟩=>by obtain⟨v,h3,h4⟩:=Rx.rd h2 b;exact⟨v,⟨c,d,e,h1 v c a,h3⟩,h4⟩
theorem Bh:∀cs,(bE K).rd F cs xs→∃v:Value,dB.rd F cs v∧v.oneCell'=true:=by rintro cs ⟨a,cap,rfl,r⟩;exact⟨_,⟨rfl,rfl⟩,rfl⟩
theorem Ml (x':Value→γ) (hc:∀F,Rx F x x' fs fs' i) (k:∀v:Value,v.oneCell'=true→aC F0 n E (.box (i_ fs') b T (x' v)::L) X):aC F0 n E (.box (i_ fs) b T x::L) X:=λF a w h0 hE hS=>by obtain⟨f,⟨cs,hr,rfl⟩,hap,hs'⟩:=hS;obtain⟨v,h1,h2⟩:=Rx.rd (hc F) hr;exact k v h2 F a w h0 hE ⟨_,⟨cs,h1,rfl⟩,hap,hs'⟩
theorem KP (k:aC F0 n E (r5::r0::r1::r2::r3::r4::L) X):aC F0 n E (r0::r1::r2::r3::r4::r5::L) X:=Mo (Lu (List.Perm.cons _ (List.Perm.refl _)) (Lu (by exact((List.Perm.swap r0 r1 _).trans (List.Perm.cons _ ((List.Perm.cons _ ((List.Perm.cons _ ((List.Perm.cons _ (List.Perm.swap _ _ _)).trans (List.Perm.swap _ _ _))).trans (List.Perm.swap _ _ _))).trans (List.Perm.swap _ _ _)))).trans (List.Perm.swap _ _ _)) k))
theorem UJ {s:ByteArray} (h:s.data.toList.map (λb=>(b.toNat:Int))=x):dK (.raw (.string s)) ml x:=λF v hv=>by simp only[SV.ok] at hv;subst hv;exact⟨[.string s],⟨s,rfl,h.symm⟩,rfl⟩
theorem ql (h:ml.val F v x):∃s:ByteArray,v= .string s∧x=s.data.toList.map (λb=>(b.toNat:Int)):=by obtain⟨cs,⟨s,rfl,hx⟩,e⟩:=h;exact⟨s,e,hx⟩
theorem CO {a b:ByteArray} (h:a.data.toList.map (λb=>(b.toNat:Int))=b.data.toList.map (λb=>(b.toNat:Int))):a=b:=by(have key:∀l m:List UInt8,l.map (λb=>(b.toNat:Int))=m.map (λb=>(b.toNat:Int))→l=m:=by intro l;induction l with|nil=>(intro m h;cases m with|nil=>rfl|cons _ _=>cases h)|cons x l ih=>intro m h;cases m with|nil=>cases h|cons y m=>simp only[G6,List.cons.injEq] at h;rw[ih m h.2,UInt8.toNat_inj.1 (by omega:x.toNat=y.toNat)]);have:=key _ _ h;cases a;cases b;simp only[ByteArray.mk.injEq] at*;exact Array.toList_inj.1 this
theorem LR {b:BinOp} (hT:P.underlying T=some .string) (hX:ev E X=some s1) (h1:dK s1 ml x) (hY:ev E Y=some s2) (h2:dK s2 ml y) (hb:b= .eql∨b= .neq):dH P n E L ⟨some d,.binOp b T X Y u,ty,pos,aft,none⟩ (.raw (.bool (if b= .eql then x==y else x != y))):=KJ λF a hE w=>by obtain⟨c,e1,rfl⟩:=ql (h1 F _ (hE.eval hX));obtain⟨e,e2,rfl⟩:=ql (h2 F _ (hE.eval hY));(have hq:((c.data.toList.map λb=>(b.toNat:Int))==(e.data.toList.map λb=>(b.toNat:Int)))=(c.toList==e.toList):=by rw[Hm,Jp,Jp];simp only[Ih];exact⟨λh=>by rw[CO h],λh=>by rw[h]⟩);rcases hb with rfl|rfl;simp only[JJ,hq];rw[execOp];simp only[e1,e2,eqGuard];simp[binOp_string_eql];simp only[reduceCtorEq,JP,bne,hq];rw[execOp];simp only[e1,e2,eqGuard];simp[binOp_string_neq]
theorem NZ {x:List Int} (ht:P.underlying t=some .string) (hX:ev E X=some s1) (h1:dK s1 ml x):dH P n E L ⟨some d,.call ⟨.builtin .len,#[X],#[t]⟩,ty,pos,aft,none⟩ (.raw (.int .i64 x.length)):=KJ λF a hE w=>by obtain⟨b,e1,rfl⟩:=ql (h1 F _ (hE.eval hX));simp[execOp,resolve,invoke,builtin,Builtin.len_,GO ht,e1,goInt]
end
end Go.Sim
namespace Go.Sim
open Go
def kX:List Oper→List SV→List (Nat×SV)→List (Nat×SV)|o::l,s::sv,E=>(match o.dst with|some d=>kX l sv ((d,s)::E)|none=>kX l sv E)|_,_,E=>E
def FV (R:List (List Nat)) (g:List Nat) (lg:List Oper) (k t:Nat):Bool:=(List.range g.length).all λq=>match lg[q]? with|some o=>(match o.dst with|some d=> !(Nat.beq d t)||(cond (Nat.blt q k) (eG (g.getD q 0) (R.getD (g.getD k 0) [])) (cond (Nat.beq q k) true (eG (g.getD k 0) (R.getD (g.getD q 0) []))))|none=>true)|none=>true
def uS (l:List Oper) (D g:List Nat) (p:List (List Nat)):Bool:=g.all (λi=>Nat.blt i l.length)&&g.all (λi=> !eG i D)&&pS g&&pS ((pick l g).filterMap (·.dst))&&(List.range l.length).all (λj=>eG j D||eG j g||g.all (λi=>eG i ((lT l []).getD j [])))&&(List.range g.length).all λk=>match(pick l g)[k]?,p[k]? with|some o,some us=> !Bb o.op&&(eB o).all (λe=>Nat.blt e l.length&&(eG e D||eG e (g.take k)))&&us.all (λt=>FV (lT l []) g (pick l g) k t)|_,_=>false
section
variable {P:Program} {ops:Array Oper} {Q:Exit→Act→World→Prop} {rest:List Oper} {F0:Fz} {n:Nat} {E:List (Nat×SV)} {L:List bx}
variable {d:Nat} {op:Op} {ty:TypeId} {pos:String} {aft:Array Edge} {s:SV} {Lf:List bx→List bx}
theorem zP {l:List Oper} {g:List Nat} (h:uS l D g p=true):GB l D g p:=by simp only[uS,GH,Hq] at h;obtain⟨⟨⟨⟨⟨h1,h2⟩,h3⟩,h4⟩,h5⟩,h6⟩:=h;(have a:∀i∈g,i<l.length:=λi hi=>by simpa[H4] using h1 i hi);refine⟨a,λi hi hm=>?_,jZ h3,jZ h4,λj hj=>?_,λk i hk=>?_⟩;have:=h2 i hi;rw[dp.2 hm] at this;cases this;have:=h5 j (H8.2 hj);simp only[HH,Hq] at this;rcases this with(h|h)|h;exact .inl (dp.1 h);exact .inr (.inl (dp.1 h));exact .inr (.inr λi hi=>by have:=dp.1 (h i hi);simpa[List.getD] using this);have d:k<g.length:=(GC.1 hk).1;have f:i<l.length:=a i (Hb hk);have c:=lO a k i hk;(have ho:l[i]? =some l[i]:=by simp[f]);have h7:=h6 k (H8.2 d);rw[c,ho] at h7;cases hp:p[k]? with|none=>rw[hp] at h7;cases h7|some us=>rw[hp] at h7;simp only[GH,Hq,HG] at h7;refine⟨l[i],us,ho,by rw[c,ho],rfl,h7.1.1,λe he=>?_,λt ht q j o' hq hj hd=>?_⟩;have:=h7.1.2 e he;simp only[GH,HH,H4] at this;exact⟨this.1,this.2.imp dp.1 dp.1⟩;have h8:=h7.2 t ht;simp only[FV,Hq] at h8;have m:q<g.length:=(GC.1 hq).1;have h9:=h8 q (H8.2 m);rw[lO a q j hq,hj] at h9;(have gk:g.getD k 0=i:=by simp[List.getD,hk]);(have gq:g.getD q 0=j:=by simp[List.getD,hq]);simp only[hd,Nat.beq_refl,G9,ID,gk,gq] at h9;constructor;intro b;(have:Nat.blt q k=true:=by simpa[H4] using b);rw[this,Gy] at h9;simpa[List.getD] using dp.1 h9;intro b;(have hb:Nat.blt q k=false:=by cases hb:Nat.blt q k with|false=>rfl|true=>(have:q<k:=by simpa[H4] using hb);omega);(have n:Nat.beq q k=false:=by cases hb:Nat.beq q k with|false=>rfl|true=>have:=Hw hb;omega);rw[hb,Gx,n,Gx] at h9;simpa[List.getD] using dp.1 h9
theorem m9:∀{l:List Oper} {sv:List SV} {E:List (Nat×SV)},(∀o∈l,o.dst≠some t)→look (kX l sv E) t=look E t|[],sv,E,_=>by simp[kX]|o::l,[],E,_=>by simp[kX]|o::l,s::sv,E,h=>by have ih:=λE'=>m9 (t:=t) (l:=l) (sv:=sv) (E:=E') (λq hq=>h q (by simp[hq]));have ho:=h o (by simp);rw[kX];cases hd:o.dst with|none=>exact ih E|some d=>simp only[];rw[ih,cZ,Hu];intro e;rw[hd] at ho;exact ho (by rw[e])
theorem wS:∀{l:List Oper} {sv:List SV} {E:List (Nat×SV)} {j:Nat} {o:Oper},(l.filterMap (·.dst)).Nodup→l[j]? =some o→o.dst=some t→sv[j]? =some s→look (kX l sv E) t=some s|[],sv,E,j,o,_,hj,_,_=>by simp at hj|q::l,[],E,j,o,_,_,_,hs=>by simp at hs|q::l,s0::sv,E,j,o,hn,hj,ht,hs=>by cases j with|zero=>simp at hj hs;subst hj;subst hs;rw[IR ht,Ib] at hn;rw[kX,ht];simp only[];rw[m9 (λx hx e=>hn.1 (I0.2 ⟨x,hx,e⟩)),cZ];simp|succ j=>have a:(l.filterMap (·.dst)).Nodup:=hn.sublist ((List.sublist_cons_self q l).filterMap _);rw[kX];cases hd:q.dst<;>exact wS a (by simpa using hj) ht (by simpa using hs)
theorem oj (a:∀r T,(r::Lf T).Perm (Lf (r::T))):∀(X:List bx) (T:List bx),(X++Lf T).Perm (Lf (X++T))|[],T=>List.Perm.refl _|r::X,T=>(List.Perm.cons r (oj a X T)).trans (a r _)
theorem Gi (a:∀r T,(r::Lf T).Perm (Lf (r::T))) {X:List bx} (h:X.Perm Y) (T:List bx):(Lf (X++T)).Perm (Lf (Y++T)):=(oj a X T).symm.trans ((h.append_right _).trans (oj a Y T))
def cC:Value→Nat| .pointer (some p)=>p.block|_=>0
theorem QB:∀r T,(r::(λT:List bx=>T) T).Perm ((λT:List bx=>T) (r::T)):=λ_ _=>List.Perm.refl _
theorem SM:∀r T,(r::(λT:List bx=>r1::T) T).Perm ((λT:List bx=>r1::T) (r::T)):=λ_ _=>List.Perm.swap _ _ _
theorem Sx:∀r T,(r::(λT:List bx=>r1::r2::T) T).Perm ((λT:List bx=>r1::r2::T) (r::T)):=λ_ _=>(List.Perm.swap _ _ _).trans (List.Perm.cons _ (List.Perm.swap _ _ _))
theorem Rd:∀r T,(r::(λT:List bx=>r1::r2::r3::T) T).Perm ((λT:List bx=>r1::r2::r3::T) (r::T)):=λ_ _=>(List.Perm.swap _ _ _).trans (List.Perm.cons _ ((List.Perm.swap _ _ _).trans (List.Perm.cons _ (List.Perm.swap _ _ _))))
theorem UV:∀r T,(r::(λT:List bx=>r1::r2::r3::r4::T) T).Perm ((λT:List bx=>r1::r2::r3::r4::T) (r::T)):=λ_ _=>(List.Perm.swap _ _ _).trans (List.Perm.cons _ ((List.Perm.swap _ _ _).trans (List.Perm.cons _ ((List.Perm.swap _ _ _).trans (List.Perm.cons _ (List.Perm.swap _ _ _))))))
end
end Go.Sim
namespace Go.Sim
open Go
section
variable {P:Program} {ops:Array Oper} {Q:Exit→Act→World→Prop} {rest:List Oper} {F0:Fz} {n:Nat} {E:List (Nat×SV)} {L:List bx}
variable {d:Nat} {op:Op} {ty:TypeId} {pos:String} {aft:Array Edge} {s:SV}
theorem Md {α:Type} [BEq α] {T:TypeId} {K:Kd α} {a D:Nat} (h:tI P T K a) (b:Nat.ble a D=true):tI P T K D:=⟨λ{d F v u x y w} h1 h2=>by have:=HS b;(have e:d+D=(d+(D - a))+a:=by omega);rw[e];exact h.eq h1 h2⟩
theorem tI.str (hT:P.underlying T=some .string):tI P T ml 1:=⟨λ{d F v u x y w} h1 h2=>by obtain⟨s1,e1,rfl⟩:=ql h1;obtain⟨s2,e2,rfl⟩:=ql h2;subst e1;subst e2;(have hq:((s1.data.toList.map λb=>(b.toNat:Int))==(s2.data.toList.map λb=>(b.toNat:Int)))=(s1.toList==s2.toList):=by rw[Hm,Jp,Jp];simp only[Ih];exact⟨λh=>by rw[CO h],λh=>by rw[h]⟩);rw[hq];exact run_equalIn_string w d T s1 s2 hT⟩
def Ry (P:Program) (D:Nat) {β:Type}:List Field→List (dN β)→Nat→(β→β→Bool)→Prop
 |[],[],_,q=>∀x y,q x y=true
 | f :: ff, k :: fs, o, q => f.name ≠ "_" ∧ f.offset = o ∧ KT P f.type k.K ∧ ∃ (i : BEq k.α), tI P f.type k.K D ∧ ∃ q', (∀ x y, q x y = (k.get x == k.get y && q' x y)) ∧ Ry P D ff fs (o + k.K.n) q'
 |_,_,_,_=>False
theorem Bi {D d:Nat} {cs ds:List Value}:∀{ff:List Field} {fs:List (dN β)} {o:Nat} {q:β→β→Bool},Ry P D ff fs o q→o+nF fs=cs.length→o+nF fs=ds.length→pD F fs (cs.drop o) x→pD F fs (ds.drop o) y→(Op.eqFields (d+D) cs.toArray ds.toArray ff).run P w= .ok (q x y) w|[],[],o,q,h,_,_,_,_=>by simp[Op.eqFields,h x y]|f::ff,k::fs,o,q,⟨h1,h2,h3,i,h4,q',h5,h6⟩,l1,l2,⟨c1,d1,e1,a1,b1⟩,⟨c2,d2,e2,a2,b2⟩=>(by subst h2;simp only[nF] at l1 l2;have p1:=nn h3 cs.toArray f.offset (by simp;omega) w;have p2:=nn h3 ds.toArray f.offset (by simp;omega) w;(have t1:(cs.drop f.offset).take k.K.n=c1:=by rw[e1,←k.K.len a1,HW]);(have t2:(ds.drop f.offset).take k.K.n=c2:=by rw[e2,←k.K.len a2,HW]);simp only[t1,t2] at p1 p2;have hq:=h4.eq (d:=d) (w:=w) ⟨c1,a1,rfl⟩ ⟨c2,a2,rfl⟩;(have e3:cs.drop (f.offset+k.K.n)=d1:=by rw[←HN,e1,←k.K.len a1,Jz]);(have e4:ds.drop (f.offset+k.K.n)=d2:=by rw[←HN,e2,←k.K.len a2,Jz]);have ih:=Bi (cs:=cs) (ds:=ds) h6 (by omega) (by omega) (by rw[e3];exact b1) (by rw[e4];exact b2) (d:=d) (w:=w);rw[h5];simp only[Op.eqFields,Hv h1,GK,p1,p2,hq,GE];cases a:(k.get x==k.get y) with|false=>simp|true=>simp only[G9,Iw,JP,HK];exact ih)|[],_::_,_,_,h,_,_,_,_=>h.elim|_::_,[],_,_,h,_,_,_,_=>h.elim
theorem tI.st {β:Type} [BEq β] {T:TypeId} {fs:List (dN β)} {ff:Array Field} {D:Nat} (hT:P.underlying T=some (.struct ff)) (hp:P.stoodInHeld T=false) (h:Ry P D ff.toList fs 0 (λx y=>x==y)):tI P T (i_ fs) (D+1):=⟨λ{d F v u x y w} h1 h2=>by obtain⟨e1,r1⟩:=kS h1 rfl;obtain⟨e2,r2⟩:=kS h2 rfl;(have hf:P.fieldsOf T=ff:=by simp[Program.fieldsOf,hT]);rw[e1,e2,show d+(D+1)=(d+D)+1 by omega,run_equalIn_struct w (d+D) T _ _ (by rw[hf];exact hT) hp,hf];exact Bi h (by rw[G5];exact((i_ fs).len r1).symm) (by rw[G5];exact((i_ fs).len r2).symm) (by rw[H7];exact r1) (by rw[H7];exact r2)⟩
inductive QE:List SV→List SV→Prop where
 |nil:QE [] []
 |sm {x:SV} {l l':List SV} (r:QE l l'):QE (x::l) (x::l')
 |rd {α:Type} {K:Kd α} {x:α} {s0:SV} {l l':List SV} (h:dK s0 K x) (r:QE l l'):QE (s0::l) (.val K x::l')
theorem QE.oks:∀{l l':List SV} {vs:List Value},QE l l'→SV.oks F vs l→SV.oks F vs l'|_,_,[],.nil,h=>h|_,_,_::_,.nil,h=>by simp only[SV.oks] at h|_,_,[],.sm r,h=>by simp only[SV.oks] at h|_,_,_::_,.sm r,h=>by simp only[SV.oks] at h⊢;exact⟨h.1,QE.oks r h.2⟩|_,_,[],.rd q r,h=>by simp only[SV.oks] at h|_,_,_::_,.rd q r,h=>by simp only[SV.oks] at h⊢;exact⟨by simp only[SV.ok];exact q _ _ h.1,QE.oks r h.2⟩
theorem Oc (c:QE l l') (h:Ok P f l' L s L'):Ok P f l L s L':=λF w vs hv hS=>h F w vs (c.oks hv) hS
end
end Go.Sim
namespace Go.Sim
open Go
section
variable {P:Program} {ops:Array Oper} {Q:Exit→Act→World→Prop} {rest:List Oper} {F0:Fz} {n:Nat} {E:List (Nat×SV)} {L:List bx}
variable {d:Nat} {op:Op} {ty:TypeId} {pos:String} {aft:Array Edge} {s:SV}
def c5 (xs:List Int):List Int:=xs.map λn=>((UInt8.ofNat n.toNat).toNat:Int)
theorem ym:∀(xs:List Int) (s:ByteArray),((xs.foldl (λr n=>r.push (UInt8.ofNat n.toNat)) s).data.toList.map λb=>(b.toNat:Int))=(s.data.toList.map λb=>(b.toNat:Int))++c5 xs|[],s=>by simp[c5]|x::xs,s=>by simp only[HI];rw[ym xs];simp[c5,ByteArray.push]
theorem FN {F:Fz} {w:World} {xs:List Int} (hv:(bE (aR .u8)).val F v xs) (hw:∀b o,F.blk b=some o→w.heap[b]? =some o):(Conv.bytesToString v).run P w= .ok (.string (xs.foldl (λr n=>r.push (UInt8.ofNat n.toNat)) ByteArray.empty)) w:=by obtain⟨cs,⟨a,cap,rfl,hcap,r⟩,rfl⟩:=hv;cases a with|none=>(have:xs=[]:=by rcases r with r|⟨p,_,_,_,h,_⟩;exact G1 r;cases h);subst this;simp[rK,bE,Conv.bytesToString]|some p=>refine run_bytesToString w p xs.length cap xs ?_;have:=run_loadCells_list (P:=P) w p (xs.map (Value.int .u8)) λj v hj=>?_;simpa using this;rw[It] at hj;obtain⟨x,hx,rfl⟩:=Hg.1 hj;rcases r with r|⟨q,c,e,fr,hq,hp,hb,hle,hrd⟩;have:=G1 r;subst this;simp at hx;cases hq;obtain⟨b,o,sp⟩:=p;simp only at hp hb hle;subst hp;rw[Hh,IU w b (o+j) c e fr (hw _ _ hb)];have h1:=ww hrd hx;(have hjl:j<xs.length*(aR .u8).n:=by have:=(GC.1 hx).1;simp[aR];omega);rw[GY hjl,HC] at h1;simpa using h1
theorem Lm {xs:List Int} (hT:P.underlying T=some (.slice e)) (he:P.underlying e=some (.int .u8)) (hU:P.underlying U=some .string) (hX:ev E X=some s) (hr:dK s (bE (aR .u8)) xs):dH P n E L ⟨some d,.convert T U X,ty,pos,aft,none⟩ (.val ml (c5 xs)):=λF a hE=>by have hv:=hr F _ (hE.eval hX);refine⟨.string (xs.foldl (λr n=>r.push (UInt8.ofNat n.toNat)) ByteArray.empty),by simp only[SV.ok];exact⟨[_],⟨_,rfl,by rw[ym];rfl⟩,rfl⟩,λw ⟨G,hg,hS⟩=>?_⟩;have hrun:=FN (P:=P) (hv.mono hg) hS.on.blk;obtain⟨cs,⟨ad,cap,rfl,_⟩,hval⟩:=hv;have hval:a.eval X= .slice ad xs.length cap:=hval;unfold Oper.quietAt;rw[hval] at hrun;(have hc:(convert T U (.slice ad xs.length cap)).run P w= .ok (.string (xs.foldl (λr n=>r.push (UInt8.ofNat n.toNat)) ByteArray.empty)) w:=by rw[run_convert_bytes_string w T U e ad _ cap hT he hU,hrun]);simp[execOp,hval,hc,Oper.quietUpon]
theorem EU {w:World} {c:Array Value} (hb:w.heap[g]? =some (.cells c e (0,0))) (o:Nat):∃w',(markStringish ⟨g,o,none⟩).run P w= .ok () w'∧w'.heap[g]? =some (.cells c e (c.size,c.size+1))∧PR w w' (bM.one g (.cells c e (0,0))):=by have d:=fQ hb;(have a:w.shape? g=some (e,c.size):=by simp[World.shape?,hb]);refine⟨w.freeze ⟨g,c.size,none⟩ 1,by simp[markStringish,a],?_,⟨rfl,rfl,rfl,λk hk hn=>?_⟩⟩;simp[World.freeze,IK,hb];(have b:g≠k:=λh=>by subst h;rw[J8] at hn;cases hn);simp[World.freeze,IK,b]
theorem L3 {K:Kd α} {xs:List α} (hT:P.underlying T=some (.slice e)) (he:P.underlying e=some (.int .u8)) (h0:0<xs.length) (hX:ev E X=some (.raw v)) (hd:Nat.blt d n=true) (k:aC F0 n ((d,.val (bE K) xs)::E) L (wpList P t Q p)):aC F0 n E (.own K v e' xs::L) (wpList P t Q (⟨some d,.convert T T X,ty,pos,aft,none⟩::p)):=Kq rfl λF a w u hE hS=>by have hv:=hE.raw hX;obtain⟨h,hh,hon⟩:=hS.head;rcases hh with⟨rfl,rfl,_⟩|⟨g,cap,b,rfl,rfl,h3,h4,h5,h6⟩;simp at h0;have hb:=hon g _ (J8 _ _);obtain⟨w',hrun,x,hc⟩:=EU (P:=P) hb 0;let o':Obj:= .cells b e' (b.size,b.size+1);(have y:F.blk g=none:=by obtain⟨h2,c,r,hs2⟩:=hS;(have z:h2 g≠none:=by rcases c with⟨q,_⟩|⟨g',cap',cur',q,rfl,_⟩;cases q;simp only[Value.slice.injEq,Option.some.injEq,Addr.mk.injEq,Je,true_and] at q;obtain⟨rfl,_⟩:=q;rw[J8];simp);exact r g z);(have A:St F w' (.any (λq=>q=bM.one g o')::L):=hS.turn λh2 c s=>by rcases c with⟨q,_⟩|⟨g',cap',cur',q,rfl,_⟩;cases q;simp only[Value.slice.injEq,Option.some.injEq,Addr.mk.injEq,Je,true_and] at q;obtain⟨rfl,rfl⟩:=q;have l:=s g _ (J8 _ _);rw[hb] at l;have hq:=Option.some.inj l;simp only[Obj.cells.injEq,Je,true_and] at hq;subst hq;refine⟨bM.one g o',rfl,hc,λk hk=> .inl ?_,λk o eo=>?_⟩;by_cases m:k=g;subst m;rw[J8];simp;exact absurd (KM _ m) hk;obtain⟨rfl,rfl⟩:=KI eo;exact x);obtain⟨f,hf,hap1,i,hS2⟩:=A.freeze;have hf:f=bM.one g o':=hf;subst hf;(have j:(convert T T (.slice (some ⟨g,0,none⟩) xs.length cap)).run P w= .ok (.slice (some ⟨g,0,none⟩) xs.length cap) w':=by simp[convert,GO hT,GO he,hrun]);unfold Oper.wp;simp only[execOp,hv,GK,j,GE,GR,Oper.upon];refine k _ _ _ (Lk u i) ((hE.mono i).put hd ?_) hS2;simp only[SV.ok];refine⟨[.slice (some ⟨g,0,none⟩) xs.length cap],⟨_,cap,rfl,h3,.inr ⟨⟨g,0,none⟩,b,e',(b.size,b.size+1),rfl,rfl,?_,?_,by simpa using h6.mono i⟩⟩,rfl⟩;simp only[Fz.add,y];exact J8 _ _;have:xs.length*K.n≤cap*K.n:=GI _ h3;simp only;omega
end
end Go.Sim
namespace Go.Sim
open Go
end Go.Sim
namespace Go.Sim
open Go
def mdel {α β:Type} [BEq α] (x:α):List (α×β)→List (α×β)|[]=>[]|p::ps=>bif x==p.1 then ps else p::mdel x ps
theorem yn [BEq α]:∀{ps:List (α×β)} {i:Nat},gI x ps i=none→mdel x ps=ps|[],_,_=>rfl|p::ps,i,h=>by cases a:(x==p.1) with|true=>simp[gI,a] at h|false=>simp only[gI,a,Gx] at h;simp[mdel,a,yn h]
theorem CP [BEq α]:∀{es:List MapEntry} {ps:List (α×β)} {i j:Nat},tB K V F es ps→gI x ps i=some (i+j)→tB K V F (es.eraseIdx j) (mdel x ps)|e::es,p::ps,i,j,⟨a,b,c⟩,h=>(by cases d:(x==p.1) with|true=>simp only[gI,d,Gy,Option.some.injEq] at h;(have:j=0:=by omega);subst this;simpa[mdel,d] using c|false=>simp only[gI,d,Gx] at h;have:=uR h;cases j with|zero=>omega|succ j=>simp only[mdel,d,Gx,List.eraseIdx_cons_succ];exact⟨a,b,CP (i:=i+1) c (by rw[h];congr 1;omega)⟩)|[],[],i,j,_,h=>by cases h|[],_::_,_,_,h,_=>h.elim|_::_,[],_,_,h,_=>h.elim
theorem DG {es b:Array MapEntry} (h:pB es a) (hs:List.Sublist b.toList es.toList):pB b a:=⟨λe he=>h.1 e (hs.subset he),h.2.sublist (hs.map _)⟩
theorem Bj {K:Kd α} {V:Kd β} {e:MapEntry}:∀{es:List MapEntry} {ps:List (α×β)},tB K V F es ps→(es.map (·.born)).Nodup→e∈es→∃p qs,ps.Perm (p::qs)∧K.val F e.key p.1∧V.val F e.val p.2∧tB K V F (es.filter λx=>x.born != e.born) qs|[],_,_,_,he=>by cases he|x::es,[],h,_,_=>h.elim|x::es,p::ps,⟨a,b,c⟩,hn,he=>by have d:=Ib.1 hn;by_cases hx:x=e;subst hx;(have f:es.filter (λy=>y.born != x.born)=es:=Jr.2 λy hy=>by have:y.born≠x.born:=λh=>d.1 (Hk.2 ⟨y,hy,h⟩);simpa using this);exact⟨p,ps,List.Perm.refl _,a,b,by rw[JH];simp[f];exact c⟩;(have hm:e∈es:=by rcases Hc.1 he with h|h;exact absurd h.symm hx;exact h);have hb:x.born≠e.born:=λh=>d.1 (Hk.2 ⟨e,hm,h.symm⟩);obtain⟨q,qs,h1,h2,h3,h4⟩:=Bj c d.2 hm;refine⟨q,p::qs,(List.Perm.cons p h1).trans (List.Perm.swap _ _ _),h2,h3,?_⟩;rw[JH,Hv (by simpa using hb)];exact⟨a,b,h4⟩
theorem Bk {w:World} {seen:Array Nat} {es:Array MapEntry} (hr:w.heap[r]? =some (.mapIter (some bm) since seen c0)) (hb:w.heap[bm]? =some (.map es clock)) (hold:∀x∈es.toList,x.born<since) (hsc:since≤c0):(leftOf es seen=#[]∧(Instr.next (.pointer (some ⟨r,0,none⟩)) false ty).run P w= .ok (.tuple #[.bool false]) w)∨∃e∈(leftOf es seen).toList,∃w1:World,(w1=w∨w1=w.drew)∧(Instr.next (.pointer (some ⟨r,0,none⟩)) false ty).run P w= .ok (.tuple #[.bool true,e.key,e.val]) {w1 with heap:=w1.heap.setIfInBounds r (.mapIter (some bm) since (seen.push e.born) clock)}:=by simp only[Instr.next,getObj,GK,Sem.run,hr,hb,Result.andThen,next_test_false seen es since c0 hold hsc,Iw,JP];unfold leftOf;have hmem:∀x∈(Array.filter (λe=> !seen.contains e.born) es).toList,x.born<since:=λx hx=>hold x (by simp at hx⊢;exact hx.1);generalize Array.filter (λe=> !seen.contains e.born) es=L at hmem⊢;have e1:L.filter (λx=>decide (x.born<since))=L:=Array.filter_eq_self.2 (λx hx=>by simpa using hmem x (by simpa using hx));(have e2:L.filter (λx=>decide (x.born≥since))=#[]:=by rw[Array.filter_eq_empty_iff];intro x hx;have:=hmem x (by simpa using hx);simp;omega);simp only[e1,e2,IW];by_cases h0:L.size=0;left;have:L=#[]:=Array.eq_empty_of_size_eq_zero h0;subst this;refine⟨rfl,?_⟩;simp[choose,Sem.run,Question.forced];right;(have hne:L.isEmpty=false:=by simp[Array.isEmpty,h0]);simp only[hne,Iw,JP,Io,Array.size_map];(have hch:∃(j:Nat) (w1:World),j<L.size∧(w1=w∨w1=w.drew)∧(choose (Question.mapNext L.size)).run P w= .ok j w1:=by by_cases hf:L.size≤1;exact⟨0,w,by omega,.inl rfl,by simp[choose,Sem.run,Question.forced,hf]⟩;exact⟨_,w.drew,Nat.mod_lt _ (by omega),.inr rfl,by simp only[choose,Sem.run,Question.forced,GM,hf,JP,Question.cut];rfl⟩);obtain⟨j,w1,hj,hal,hrun⟩:=hch;refine⟨L[j],by simp,w1,hal,?_⟩;(have hr1:w1.heap[r]? =some (.mapIter (some bm) since seen c0):=by rcases hal with rfl|rfl<;>exact hr);(have hset:∀o':Obj,(setObj r o').run P w1= .ok () {w1 with heap:=w1.heap.setIfInBounds r o'}:=λo'=>by simp only[setObj,Sem.run,hr1]);simp only[hrun,Array.getElem?_map,HD hj,IB,GK,hset,Result.andThen];rfl
noncomputable def zQ {γ S R:Type} (ps:List γ) (f:γ→S→Option S) (k:S→Option R) (s0:S):Option R:=open Classical in if h:∃r,∀qs:List γ,qs.Perm ps→(qs.foldlM (λs q=>f q s) s0).bind k=some r then some h.choose else none
noncomputable def mz {γ S R:Type} (ps:List γ) (f:γ→S→Option S) (k:S→Option R) (s0:S):Option R:=match ps with|[]=>k s0|p::ps=>zQ (p::ps) f k s0
theorem Bl {γ S R:Type} {ps:List γ} {f:γ→S→Option S} {k:S→Option R} {s0:S} {r:R} (h:mz ps f k s0=some r) (qs:List γ) (hq:qs.Perm ps):(qs.foldlM (λs q=>f q s) s0).bind k=some r:=by cases ps with|nil=>cases hq.eq_nil;exact h|cons p ps=>simp only[mz,zQ] at h;split at h;rename_i hx;cases h;exact hx.choose_spec qs hq;cases h
theorem yo {γ S R:Type} {ps:List γ} {f:γ→S→Option S} {k:S→Option R} {s0:S} {r:R} (h:∀qs:List γ,qs.Perm ps→(qs.foldlM (λs q=>f q s) s0).bind k=some r):mz ps f k s0=some r:=by cases ps with|nil=>exact h [] (List.Perm.refl _)|cons p ps=>simp only[mz,zQ];have hx:∃r,∀qs:List γ,qs.Perm (p::ps)→(qs.foldlM (λs q=>f q s) s0).bind k=some r:=⟨r,h⟩;rw[dif_pos hx];have a:=hx.choose_spec (p::ps) (List.Perm.refl _);rw[h (p::ps) (List.Perm.refl _)] at a;exact a.symm
theorem zR (I:Nat→Act→World→Prop) {c:Code} (f:∀k a w,I k a w→c.wp P (Exit.then (λa' w'=>∃k',k'<k∧I k' a' w') Q) a w) (h0:I k a w):(Code.loop c).wp P Q a w:=by intro b kk cs;(have key:∀k a w,I k a w→∃e a' w',Q e a' w'∧Arrives P (lone (b.at a (.code c:: .inLoop c::kk)) cs w) b kk cs e a' w':=by intro k;induction k using Nat.strongRecOn with|_ k ih=>intro a w hI;obtain⟨e,a₁,w₁,hq,d⟩:=f k a w hI b (.inLoop c::kk) cs;cases e with|normal=>obtain⟨k',g,h⟩:=hq;obtain⟨e₂,a₂,w₂,hq₂,harr₂⟩:=ih k' g a₁ w₁ h;exact⟨e₂,a₂,w₂,hq₂,.of_steps (Steps.trans d (.one step_inLoop)) harr₂⟩|exit id=>exact⟨_,a₁,w₁,hq,.pass (x:= .inLoop c) rfl (λ_ _=> .inl (by simp)) d⟩|goto l=>exact⟨_,a₁,w₁,hq,.pass (x:= .inLoop c) rfl (λ_ _=> .inl (by simp)) d⟩|ret=>exact⟨_,a₁,w₁,hq,.pass (x:= .inLoop c) rfl (λ_ _=> .inl (by simp)) d⟩|panic ch=>exact⟨_,a₁,w₁,hq,.pass (x:= .inLoop c) rfl (λ_ _=> .inl (by simp)) d⟩|outgrown=>exact⟨_,a₁,w₁,hq,.pass (x:= .inLoop c) rfl (λ_ _=> .inl (by simp)) d⟩);obtain⟨e,a',w',hq,d⟩:=key k a w h0;exact⟨e,a',w',hq,.of_steps (.one step_loop) d⟩
section
variable {P:Program} {ops:Array Oper} {Q:Exit→Act→World→Prop} {rest:List Oper} {F0:Fz} {n:Nat} {E:List (Nat×SV)} {L:List bx}
variable {d:Nat} {op:Op} {ty:TypeId} {pos:String} {aft:Array Edge} {s:SV}
def S4 {α β S C:Type} (F0:Fz) (n:Nat) (K:Kd α) (V:Kd β) (it:Nat) (f:α×β→S→Option S) (Es:S→C→List (Nat×SV)) (Ls:S→C→List bx) (x:S) (left:List (α×β)):Act→World→Prop:=λa w=>∃x' y' F p b c,left.Perm (p::b)∧f p x=some x'∧F0≤F∧Env F a n (Es x' y')∧St F w (.itr K V it b c::Ls x' y')
theorem LS {ps:List (α×β)} {c:Code} (c0:C) (Es:S→C→List (Nat×SV)) (Ls:S→C→List bx) (h:mz ps f k x0=some r) (hE:∀t v,look (Es x0 c0) t=some v→look E t=some v) (hL:L= .itr K V it ps none::Ls x0 c0) (g:∀x y left d,(left=[]→k x=some r)→(∀p b,left.Perm (p::b)→∃x',f p x=some x')→aC F0 n (Es x y) (.itr K V it left d::Ls x y) (c.wp P (Exit.then (S4 F0 n K V it f Es Ls x left) Q))):aC F0 n E L ((Code.loop c).wp P Q):=λF a w h0 i hS=>by refine zR (λm a w=>∃x y left d F,left.length=m∧(∀qs:List (α×β),qs.Perm left→(qs.foldlM (λs q=>f q s) x).bind k=some r)∧F0≤F∧Env F a n (Es x y)∧St F w (.itr K V it left d::Ls x y)) ?_ (k:=ps.length) ⟨x0,c0,ps,none,F,rfl,Bl h,h0,i.sub hE,hL▸hS⟩;rintro m a w ⟨x,y,left,d,F,hm,hall,h0,hE,hS⟩;refine wp_mono (g x y left d (λhl=>?_) (λp b hp=>?_) F a w h0 hE hS) (λe a w q=>?_);subst hl;have:=hall [] (List.Perm.refl _);simpa using this;have:=hall (p::b) hp.symm;rw[JI] at this;(cases hf:f p x with|none=>rw[hf] at this;simp at this|some x'=>exact⟨x',rfl⟩);cases e with|normal=>obtain⟨x',y',F,p,b,cur',hp,hf,h1,h2,h3⟩:=q;refine⟨b.length,?_,x',y',b,cur',F,rfl,λqs hq=>?_,h1,h2,h3⟩;have:=hp.length_eq;simp at this;omega;have:=hall (p::qs) ((List.Perm.cons p hq).trans hp.symm);rw[JI,hf] at this;simpa using this|_=>exact q
theorem LT {left:List (α×β)} (x':S) (y':C) (hp:left.Perm (p::left')) (hf:f p x=some x1) (ho:(some x':Option S)=some x1) (hE:∀t v,look (Es x' y') t=some v→look E t=some v) (hL:L= .itr K V it left' cur'::Ls x' y'):aC F0 n E L (S4 F0 n K V it f Es Ls x left):=λF a w h0 hE' hS=>⟨x',y',F,p,left',cur',hp,by rw[hf];exact ho.symm,h0,hE'.sub hE,hL▸hS⟩
theorem aC.mdel {α β:Type} [BEq α] {K:Kd α} {V:Kd β} {T t2 kt et:TypeId} {b:Nat} {ps:List (α×β)} {M X:Operand} {x:α} {s1:SV} (hk:zJ P kt K) (hT:P.underlying T=some (.map kt et)) (hM:ev E M=some (.raw (.map (some b)))) (hX:ev E X=some s1) (h1:dK s1 K x) (k:aC F0 n E (.mp K V b (mdel x ps)::L) (wpList P t Q p)):aC F0 n E (.mp K V b ps::L) (wpList P t Q (⟨none,.call ⟨.builtin .delete,#[M,X],#[T,t2]⟩,ty,pos,aft,none⟩::p)):=Kq rfl λF a w h0 hE hS=>by obtain⟨h,⟨es,c,⟨f,g⟩,rfl⟩,l⟩:=hS.head;have hb:w.heap[b]? =some (.map es c):=l b _ (J8 _ _);have v1:=h1 F _ (hE.eval hX);(have r:∃d,(Builtin.delete_ #[T,t2] ty #[.map (some b),a.eval X]).run P w= .ok (.tuple #[]) {w with heap:=w.heap.setIfInBounds b (.map d c)}∧tB K V F d.toList (Go.Sim.mdel x ps)∧pB d c:=by have hc:=λbb=>hk.chk (b:=bb) (w:=w) v1;rcases fH hk v1 (w:=w) (i:=0) f with⟨a1,a2,a3⟩|⟨j,e,a1,a2,a3,a4,q,a5,a6⟩;refine⟨es,?_,by rw[yn a1];exact f,g⟩;simp[Builtin.delete_,GO hT,Ht (P:=P) hb,hc,hk.find a3,HV (P:=P) _ hb];simp only[G5] at a3 a1;refine⟨es.eraseIdxIfInBounds j,?_,?_,DG g ?_⟩;simp[Builtin.delete_,GO hT,Ht (P:=P) hb,hc,hk.find a3,HV (P:=P) _ hb];rw[Array.toList_eraseIdxIfInBounds];exact CP (i:=0) f (by rw[a1,G5]);rw[Array.toList_eraseIdxIfInBounds];exact List.eraseIdx_sublist _ _);obtain⟨d,hr,s,hst'⟩:=r;(have u:St F {w with heap:=w.heap.setIfInBounds b (.map d c)} (.mp K V b (Go.Sim.mdel x ps)::L):=by refine hS.turn λh hh l=>?_;obtain⟨z,clock0,_,rfl⟩:=hh;have v:=fQ hb;refine⟨bM.one b (.map d c),⟨d,c,⟨s,hst'⟩,rfl⟩,⟨rfl,rfl,rfl,λq _ hq=>?_⟩,λq hq=> .inl ?_,λq o ho=>?_⟩;(have y:b≠q:=λe=>by subst e;rw[J8] at hq;cases hq);exact Hs y;by_cases m:q=b;subst m;rw[J8];simp;exact absurd (KM _ m) hq;obtain⟨rfl,rfl⟩:=KI ho;exact G8 v);unfold Oper.wp;simp[execOp,resolve,invoke,builtin,hE.raw hM,hr,Oper.upon];exact k F _ _ h0 hE u
theorem aC.rng (hT:P.underlying T=some (.map kt et)) (hX:ev E X=some (.val (O4 K V) ps)) (hd:Nat.blt d n=true) (k:∀b,aC F0 n ((d,.raw (.pointer (some ⟨b,0,none⟩)))::E) (.itr K V b ps none::L) (wpList P ops Q rest)):aC F0 n E L (wpList P ops Q (⟨some d,.range T X,ty,pos,aft,none⟩::rest)):=Kq rfl λF a w h0 hE hS=>by have hv:=hE.eval hX;simp only[SV.ok] at hv;obtain⟨cs,h,hv3⟩:=hv;(have fin:∀o:Obj,VH K V F w.heap.size ps none (bM.one w.heap.size o)→(Instr.range T (a.eval X)).run P w= .ok (.pointer (some ⟨w.heap.size,0,none⟩)) (w.alloc o)→Oper.wp P ⟨some d,.range T X,ty,pos,aft,none⟩ a w (wpList P ops Q rest) Q:=λo ho hr=>by obtain⟨hn1,hn2⟩:=lB w o;have hS':St F (w.alloc o) (.itr K V w.heap.size ps none::L):=Me hS (bM.one w.heap.size o) ho (ke w _) hn1 hn2;unfold Oper.wp;simp only[execOp,hr,GK,GE,GR,Oper.upon];exact k _ F _ _ h0 (hE.put hd (by simp only[SV.ok])) hS');rcases h with⟨rfl,rfl⟩|⟨b,es,clock,rfl,hb,hrd,hst⟩;refine fin (.mapIter none 0 #[] 0) (.inl ⟨rfl,rfl,rfl⟩) ?_;have hv2:a.eval X= .map none:=hv3;rw[hv2];exact run_range_nilMap w T kt et hT;have hv2:a.eval X= .map (some b):=hv3;refine fin (.mapIter (some b) clock #[] clock) (.inr ⟨b,es,clock,#[],hb,hst,?_,rfl,λp hp=>by cases hp⟩) ?_;(have:es.toList.filter (λe=> !(#[]:Array Nat).contains e.born)=es.toList:=Jr.2 λe _=>by simp);rw[this];exact hrd;rw[hv2];exact run_range_map w T kt et b es clock hT (hS.on.blk _ _ hb)
theorem Mf {left:List (α×β)} (hX:ev E X=some (.raw (.pointer (some ⟨b,0,none⟩)))) (hd:Nat.blt d n=true) (kend:left=[]→aC F0 n ((d,.tup [.raw (.bool false)])::E) (.itr K V b left cur::L) (wpList P ops Q rest)) (kpick:∀p left',left.Perm (p::left')→aC F0 n ((d,.tup [.raw (.bool true),.val K p.1,.val V p.2])::E) (.itr K V b left' (some p)::L) (wpList P ops Q rest)):aC F0 n E (.itr K V b left cur::L) (wpList P ops Q (⟨some d,.next X false,ty,pos,aft,none⟩::rest)):=Kq rfl λF a w h0 hE hS=>by obtain⟨h,hh,hon⟩:=hS.head;have hh0:=hh;rcases hh with⟨rfl,rfl,rfl⟩|⟨m,es,clock,seen,hb,hst,hrd,rfl,hc⟩;have hb:w.heap[b]? =some (.mapIter none 0 #[] 0):=hon b _ (J8 _ _);(have hr:(Instr.next (.pointer (some ⟨b,0,none⟩)) false ty).run P w= .ok (.tuple #[.bool false]) w:=by simp only[Instr.next,getObj,GK,Sem.run,hb,Result.andThen];rfl);unfold Oper.wp;simp only[execOp,hE.raw hX,hr,GK,GE,GR,Oper.upon];exact kend rfl F _ _ h0 (hE.put hd (by simp only[SV.ok,SV.oks];exact⟨[_],rfl,rfl,trivial⟩)) hS;have hbi:w.heap[b]? =some (.mapIter (some m) clock seen clock):=hon b _ (J8 _ _);have hbm:=hS.on.blk _ _ hb;rcases Bk (P:=P) (ty:=ty) hbi hbm hst.1 (GZ _) with⟨h1,hr⟩|⟨e,he,w1,hw1,hr⟩;(have hl0:es.toList.filter (λe=> !seen.contains e.born)=[]:=by have:=congrArg Array.toList h1;simpa[leftOf] using this);(have hleft:left=[]:=by rw[hl0] at hrd;cases left with|nil=>rfl|cons p l=>exact hrd.elim);unfold Oper.wp;simp only[execOp,hE.raw hX,hr,GK,GE,GR,Oper.upon];exact kend hleft F _ _ h0 (hE.put hd (by simp only[SV.ok,SV.oks];exact⟨[_],rfl,rfl,trivial⟩)) hS;have hel:=mem_left he;have hlf:e∈es.toList.filter (λe=> !seen.contains e.born):=HX.2 ⟨hel.1,by rw[hel.2];rfl⟩;have hnd:((es.toList.filter (λe=> !seen.contains e.born)).map (·.born)).Nodup:=hst.2.sublist ((Js).map _);obtain⟨p,qs,hp,hk1,hv1,hrd'⟩:=Bj hrd hnd hlf;(have hrd2:tB K V F (es.toList.filter λx=> !(seen.push e.born).contains x.born) qs:=by(have:es.toList.filter (λx=> !(seen.push e.born).contains x.born)=(es.toList.filter (λe=> !seen.contains e.born)).filter λx=>x.born != e.born:=by rw[List.filter_filter];refine List.filter_congr λx _=>?_;rw[contains_push];cases seen.contains x.born<;>cases hxx:(x.born==e.born)<;>simp_all);rw[this];exact hrd');(have hS1:St F w1 (.itr K V b left cur::L):=by rcases hw1 with rfl|rfl;exact hS;exact mC.drew hS);(have hbi1:w1.heap[b]? =some (.mapIter (some m) clock seen clock):=by rcases hw1 with rfl|rfl<;>exact hbi);(have hS':St F {w1 with heap:=w1.heap.setIfInBounds b (.mapIter (some m) clock (seen.push e.born) clock)} (.itr K V b qs (some p)::L):=by refine hS1.turn λh hh hon=>?_;have hlt:=fQ hbi1;(have hbh:∀q,h q≠none↔q=b:=by(have:∃o,h=bM.one b o:=by rcases hh with⟨_,_,rfl⟩|⟨_,_,_,_,_,_,_,rfl,_⟩<;>exact⟨_,rfl⟩);obtain⟨o,rfl⟩:=this;intro q;by_cases hqb:q=b;subst hqb;rw[J8];simp;rw[KM _ hqb];simp[hqb]);refine⟨bM.one b (.mapIter (some m) clock (seen.push e.born) clock),.inr ⟨m,es,clock,seen.push e.born,hb,hst,hrd2,rfl,λp' hp'=>?_⟩,⟨rfl,rfl,rfl,λq _ hq=>?_⟩,λq hq=> .inl ?_,λq o ho=>?_⟩;cases hp';exact⟨e,seen,rfl,hel.1,hk1,hv1⟩;(have hne:b≠q:=λe=>by subst e;exact absurd hq ((hbh b).2 rfl));exact Hs hne;by_cases hqb:q=b;exact(hbh q).2 hqb;exact absurd (KM _ hqb) hq;obtain⟨rfl,rfl⟩:=KI ho;exact G8 hlt);unfold Oper.wp;simp only[execOp,hE.raw hX,hr,GK,GE,GR,Oper.upon];exact kpick p qs hp F _ _ h0 (hE.put hd (by simp only[SV.ok,SV.oks];exact⟨[_,_,_],rfl,rfl,hk1,hv1,trivial⟩)) hS'
theorem Mg {p:α×β} (hX:ev E X=some (.raw (.pointer (some ⟨b,0,none⟩)))) (hd:Nat.blt d n=true) (k:aC F0 n ((d,.tup [.val K p.1,.val V p.2])::E) (.itr K V b left (some p)::L) (wpList P ops Q rest)):aC F0 n E (.itr K V b left (some p)::L) (wpList P ops Q (⟨some d,.entry X,ty,pos,aft,none⟩::rest)):=Kq rfl λF a w h0 hE hS=>by obtain⟨h,hh,hon⟩:=hS.head;rcases hh with⟨_,hx,_⟩|⟨m,es,clock,seen,hb,hst,hrd,rfl,hc⟩;cases hx;obtain⟨e,seen',rfl,he,hk1,hv1⟩:=hc p rfl;have hbi:w.heap[b]? =some (.mapIter (some m) clock (seen'.push e.born) clock):=hon b _ (J8 _ _);have hbm:=hS.on.blk _ _ hb;(have hf:es.find? (·.born==e.born)=some e:=by rw[←Array.find?_toList];exact find_born e es.toList hst.2 he);(have hr:(Instr.entry (.pointer (some ⟨b,0,none⟩))).run P w= .ok (.tuple #[e.key,e.val]) w:=by simp only[Instr.entry,getObj,GK,Sem.run,hbi,hbm,Result.andThen,Array.back?_push,GQ,Iw,JP,hf];rfl);unfold Oper.wp;simp only[execOp,hE.raw hX,hr,GK,GE,GR,Oper.upon];exact k F _ _ h0 (hE.put hd (by simp only[SV.ok,SV.oks];exact⟨[_,_],rfl,hk1,hv1,trivial⟩)) hS
end
end Go.Sim
namespace Go.Sim
open Go
def Rc (h1 h2:bM):bM:=λb=>match h1 b with|some o=>some o|none=>h2 b
theorem CQ (F:Fz) (h1 h2:bM):(F.add h1).add h2=F.add (Rc h1 h2):=by simp only[Fz.add,Rc,Fz.mk.injEq,Je];funext b;cases F.blk b with|some o=>simp|none=>cases h1 b<;>simp
theorem Cf:Rc h1 h2 b≠none↔h1 b≠none∨h2 b≠none:=by unfold Rc;cases h1 b<;>simp
def vN (F:Fz):List bx→bM→Prop|[],h=>h=bM.emp|r::rs,h=>∃h1 h2,r.holds F h1∧vN F rs h2∧(∀b,h2 b≠none→h1 b=none)∧h=Rc h1 h2
theorem L6:∀{rs:List bx} {F:Fz},mC G F w (rs++L)→∃h,vN G rs h∧o_ F h∧mC G (F.add h) w L|[],F,hs=>⟨bM.emp,rfl,λb hb=>absurd rfl hb,by rw[Lh];exact hs⟩|r::rs,F,⟨h1,a,b,c⟩=>by obtain⟨h2,x,y,z⟩:=L6 (rs:=rs) c;refine⟨Rc h1 h2,⟨h1,h2,a,x,λq hq=>(Lg.1 (y q hq)).2,rfl⟩,λq hq=>?_,by rw[←CQ];exact z⟩;rcases Cf.1 hq with h|h;exact b q h;exact(Lg.1 (y q h)).1
theorem LU:∀{rs:List bx} {F:Fz} {h:bM},vN G rs h→o_ F h→mC G (F.add h) w L→mC G F w (rs++L)|[],F,h,e,_,hs=>by cases e;rw[Lh] at hs;exact hs|r::rs,F,h,⟨h1,h2,a,x,y,e⟩,ha,hs=>by subst e;rw[←CQ] at hs;refine⟨h1,a,λq hq=>ha q (Cf.2 (.inl hq)),LU (rs:=rs) x (λq hq=>Lg.2 ⟨ha q (Cf.2 (.inr hq)),y q hq⟩) hs⟩
def cN {α:Type} (K:Kd α):Prop:=∀F G cs x,K.rd F cs x→K.rd G cs x
theorem rk {α:Type} {K:Kd α} (hK:cN K) {F G:Fz}:∀{xs:List α} {cs:List Value},cr K F cs xs→cr K G cs xs|[],_,h=>h|x::xs,cs,⟨c,d,e,h,r⟩=>⟨c,d,e,hK _ _ _ _ h,rk hK r⟩
theorem pX {α:Type} {K:Kd α} (hK:cN K) {F G:Fz} {v:Value} {e:TypeId} {xs:List α} {h:bM} (hh:(bx.own K v e xs).holds F h):(bx.own K v e xs).holds G h:=by rcases hh with hh|⟨g,cap,cur,a1,a2,a3,a4,a5,a6⟩;exact .inl hh;exact .inr ⟨g,cap,cur,a1,a2,a3,a4,a5,rk hK a6⟩
theorem cN.int:cN (aR k):=λ_ _ _ _ h=>h
def Kl:=@cN.int
theorem cN.raw:cN dB:=λ_ _ _ _ h=>h
def Lp:=@cN.raw
theorem cN.arr {α:Type} {K:Kd α} {m:Nat} (h:cN K):cN (bC m K):=λ_ _ _ _ ⟨a,b⟩=>⟨a,rk h b⟩
theorem LH {f g:dN β} (hf:cN f.K) (hg:cN g.K):cN (i_ [f,g]):=λF G cs x ⟨c,d,e,h,c2,d2,e2,h2,r⟩=>⟨c,d,e,hf _ _ _ _ h,c2,d2,e2,hg _ _ _ _ h2,r⟩
section
variable {β γ τ:Type} (KR:Kd γ) (KT:Kd τ) (mk:β→Value→γ) (tg:β→List τ) (TE TT:TypeId)
def f_ (xs:List β) (qs:List Value):List bx:=List.zipWith (λx q=>bx.own KT q TT (tg x)) xs qs
def dq (v:Value) (xs:List β):bM→Prop:=λh=>∃(F:Fz) (qs:List Value),qs.length=xs.length∧vN F (.own KR v TE (List.zipWith mk xs qs)::f_ KT tg TT xs qs) h
abbrev mO (v:Value) (xs:List β):bx:= .any (dq KR KT mk tg TE TT v xs)
end
section
variable {P:Program} {ops:Array Oper} {Q:Exit→Act→World→Prop} {rest:List Oper} {F0:Fz} {n:Nat} {E:List (Nat×SV)} {L:List bx}
variable {d:Nat} {op:Op} {ty:TypeId} {pos:String} {aft:Array Edge} {s:SV}
variable {β γ τ:Type} {KR:Kd γ} {KT:Kd τ} {mk:β→Value→γ} {tg:β→List τ} {TE TT:TypeId} {v:Value} {xs:List β}
theorem qm (hT:cN KT):∀{xs:List β} {qs:List Value} {h:bM},vN F (f_ KT tg TT xs qs) h→vN G (f_ KT tg TT xs qs) h|[],qs,h,hh=>(show h=bM.emp from hh)|_::_,[],h,hh=>(show h=bM.emp from hh)|x::xs,q::qs,h,⟨h1,h2,a,b,c,e⟩=>⟨h1,h2,pX hT a,qm hT (xs:=xs) (qs:=qs) b,c,e⟩
theorem St.manyOpen (hR:cN KR) (hT:cN KT) (hs:St F w (mO KR KT mk tg TE TT v xs::L)):∃qs,qs.length=xs.length∧St F w (.own KR v TE (List.zipWith mk xs qs)::(f_ KT tg TT xs qs++L)):=by obtain⟨h,⟨F',qs,hl,h1,h2,a,b,c,e⟩,hap,d⟩:=hs;exact⟨qs,hl,LU (rs:= .own KR v TE (List.zipWith mk xs qs)::f_ KT tg TT xs qs) ⟨h1,h2,pX hR a,qm hT b,c,e⟩ hap d⟩
theorem Lj {qs:List Value} (hl:qs.length=xs.length) (hs:St F w (.own KR v TE (List.zipWith mk xs qs)::(f_ KT tg TT xs qs++L))):St F w (mO KR KT mk tg TE TT v xs::L):=by obtain⟨h,hb,hap,hs'⟩:=L6 (rs:= .own KR v TE (List.zipWith mk xs qs)::f_ KT tg TT xs qs) hs;exact⟨h,⟨F,qs,hl,hb⟩,hap,hs'⟩
theorem Lr (k:aC F0 n E (mO KR KT mk tg TE TT (.slice none 0 0) ([]:List β)::L) X):aC F0 n E L X:=λF a w h0 hE hS=>by refine k F a w h0 hE (Lj (qs:=[]) rfl ?_);refine⟨bM.emp,.inl ⟨rfl,rfl,rfl⟩,λb hb=>absurd rfl hb,?_⟩;rw[Lh];exact hS
theorem zip_push.{u} {ε:Type u} (f:β→Value→ε):∀{xs:List β} {qs:List Value} {x:β} {q:Value},qs.length=xs.length→List.zipWith f (xs++[x]) (qs++[q])=List.zipWith f xs qs++[f x q]|[],[],_,_,_=>rfl|x::xs,q::qs,y,p,h=>by simp only[HU,JC];rw[zip_push f (by simpa using h)]|[],_::_,_,_,h=>by simp at h|_::_,[],_,_,h=>by simp at h
theorem KC {z:γ} {bytes:Nat} {t u:TypeId} {S V:Operand} {x:β} {q:Value} {zs:List β} (hR:cN KR) (g:cN KT) (hz:Go.Sim.app xs [x]=some zs) (hT:P.underlying t=some (.slice TE)) (hu:Oh P u=true) (he:AT P TE KR z bytes) (hS:ev E S=some (.raw v)) (hV:ev E V=some s) (hr:Src P s KR [mk x q]) (hd:Nat.blt d n=true) (k:∀v',aC F0 n ((d,.raw v')::E) (mO KR KT mk tg TE TT v' zs::L) (wpList P h Q c)):aC F0 n E (mO KR KT mk tg TE TT v xs:: .own KT q TT (tg x)::L) (wpList P h Q (⟨some d,.call ⟨.builtin .append,#[S,V],#[t,u]⟩,ty,pos,aft,none⟩::c)):=λF a w h0 hE i=>by obtain⟨qs,hl,j⟩:=i.manyOpen hR g;obtain⟨b,rfl⟩:=wt hz;(have l:Go.Sim.app (List.zipWith mk xs qs) [mk x q]=some (List.zipWith mk xs qs++[mk x q]):=by(have f:(List.zipWith mk xs qs).length=xs.length:=by simp[hl]);have:=hz;simp only[Go.Sim.app];rw[Hv];rw[f];simpa using b);refine Mi (L:=f_ KT tg TT xs qs++.own KT q TT (tg x)::L) l hT hu he hS hV hr hd (λv' F a w h0 hE m=>?_) F a w h0 hE j;refine k v' F a w h0 hE (Lj (qs:=qs++[q]) (by simp[hl]) ?_);rw[zip_push mk hl];have e:f_ KT tg TT (xs++[x]) (qs++[q])=f_ KT tg TT xs qs++[.own KT q TT (tg x)]:=zip_push _ hl;rw[e];simpa using m
theorem tp {KB:Kd β} (a:∀x q,(bE KT).val F q (tg x)→∀cs,KR.rd F cs (mk x q)→KB.rd F cs x):∀{xs:List β} {qs:List Value} {cs:List Value},qs.length=xs.length→(∀p∈List.zip xs qs,(bE KT).val F p.2 (tg p.1))→cr KR F cs (List.zipWith mk xs qs)→cr KB F cs xs|[],[],_,_,_,h=>h|x::xs,q::qs,cs,hl,hv,⟨c,d,e,h,r⟩=>⟨c,d,e,a x q (hv (x,q) (by simp)) c h,tp a (by simpa using hl) (λp hp=>hv p (by simp[hp])) r⟩|[],_::_,_,h,_,_=>by simp at h|_::_,[],_,h,_,_=>by simp at h
theorem FO {K:Kd α} {xs:List α} {F:Fz} (hh:(bx.own K v e xs).holds (F.add h) h) (a:o_ F h):(bE K).val (F.add h) v xs:=by rcases hh with⟨rfl,rfl,_⟩|⟨g,cap,cur,rfl,rfl,h3,h4,h5,h6⟩;exact⟨[.slice none 0 0],⟨none,0,rfl,GZ _,.inl rfl⟩,rfl⟩;refine⟨[.slice (some ⟨g,0,none⟩) xs.length cap],⟨_,cap,rfl,h3,.inr ⟨⟨g,0,none⟩,cur,e,(0,0),rfl,rfl,?_,?_,by simpa using h6⟩⟩,rfl⟩;have hg:F.blk g=none:=a g (by rw[J8];simp);simp only[Fz.add,hg];exact J8 _ _;have:xs.length*K.n≤cap*K.n:=GI _ h3;simp only;omega
theorem MY:∀{xs:List β} {qs:List Value} {F:Fz} {w:World},St F w (f_ KT tg TT xs qs++L)→∃G,F≤G∧St G w L∧∀p∈List.zip xs qs,(bE KT).val G p.2 (tg p.1)|[],qs,F,w,h=>⟨F,LO F,by simpa[f_] using h,λp hp=>by simp at hp⟩|_::_,[],F,w,h=>⟨F,LO F,by simpa[f_] using h,λp hp=>by simp at hp⟩|x::xs,q::qs,F,w,h=>by obtain⟨f,hh,a,b,hS⟩:=St.freeze (r:= .own KT q TT (tg x)) (L:=f_ KT tg TT xs qs++L) h;obtain⟨G,h1,h2,h3⟩:=MY (xs:=xs) (qs:=qs) hS;refine⟨G,Lk b h1,h2,λp hp=>?_⟩;rcases Hc.1 (by simpa using hp) with rfl|hp;exact(FO hh a).mono h1;exact h3 p hp
theorem Ll {KB:Kd β} (hR:cN KR) (hT:cN KT) (hn:KB.n=KR.n) (c:∀F x q,(bE KT).val F q (tg x)→∀cs,KR.rd F cs (mk x q)→KB.rd F cs x) (k:aC F0 n E (.own KB v TE xs::L) X):aC F0 n E (mO KR KT mk tg TE TT v xs::L) X:=λF a w h0 hE hS=>by obtain⟨qs,hl,hS2⟩:=hS.manyOpen hR hT;have d:St F w (f_ KT tg TT xs qs++(.own KR v TE (List.zipWith mk xs qs)::L)):=hS2.perm Ix.symm;obtain⟨G,hg,e,hv⟩:=MY d;refine k G a w (Lk h0 hg) (hE.mono hg) (e.map λf hf=>?_);(have b:(List.zipWith mk xs qs).length=xs.length:=by simp[hl]);rcases hf with⟨h1,h2,h3⟩|⟨g,cap,cur,a1,a2,a3,a4,a5,a6⟩;refine .inl ⟨h1,?_,h3⟩;have:=congrArg List.length h2;rw[b] at this;exact G1 this;rw[b] at a1 a3 a6;exact .inr ⟨g,cap,cur,a1,a2,a3,a4,by rw[hn];exact a5,by rw[hn];exact tp (c G) hl hv a6⟩
theorem Lz {i:Int} (hR:cN KR) (hT:cN KT) (hi:idx xs i=some x)
   (k:∀(q:Value) (ys:List γ) (Rs:List bx),ys.length=xs.length→idx ys i=some (mk x q)→
    (∀x',mk x' q=mk x q→∀F w L',St F w (.own KR v TE ys:: .own KT q TT (tg x')::(Rs++L'))→St F w (mO KR KT mk tg TE TT v (xs.set i.toNat x')::L'))→
    aC F0 n E (.own KR v TE ys:: .own KT q TT (tg x)::(Rs++L)) X):aC F0 n E (mO KR KT mk tg TE TT v xs::L) X:=λF a w h0 hE hS=>by
 obtain⟨qs,hl,d⟩:=hS.manyOpen hR hT
 obtain⟨h1,h2,h3⟩:=iA hi
 have e:i.toNat<xs.length:=(GC.1 h3).1
 have b:i.toNat<qs.length:=by omega
 have hx:xs[i.toNat]=x:=(GC.1 h3).2
 have f:∀x',f_ KT tg TT (xs.set i.toNat x') qs=f_ KT tg TT (xs.take i.toNat) (qs.take i.toNat)++.own KT qs[i.toNat] TT (tg x')::f_ KT tg TT (xs.drop (i.toNat+1)) (qs.drop (i.toNat+1)):=λx'=>by
   unfold f_
   rw[HZ,Hv e]
   conv=>lhs;rw[show qs=qs.take i.toNat++qs[i.toNat]::qs.drop (i.toNat+1) by simp]
   rw[List.zipWith_append (by simp;omega)]
   rfl
 have g:xs.set i.toNat x=xs:=by rw[←hx];simp
 have c:=f x
 rw[g] at c
 rw[c] at d
 refine k qs[i.toNat] (List.zipWith mk xs qs) (f_ KT tg TT (xs.take i.toNat) (qs.take i.toNat)++f_ KT tg TT (xs.drop (i.toNat+1)) (qs.drop (i.toNat+1))) (by simp[hl]) ?_ (λx' he F w L' h=>?_) F a w h0 hE (d.perm ?_)
 · unfold idx
   rw[Hv h1,IJ,h3]
   simp[b]
 · refine Lj (qs:=qs) (by simp[hl]) ?_
   have hz:List.zipWith mk (xs.set i.toNat x') qs=List.zipWith mk xs qs:=by
    refine IN λj=>?_
    rw[IJ,IJ,List.getElem?_set]
    by_cases hj:i.toNat=j
    · subst hj
      rw[Hv rfl,Hv e,h3]
      simp only[Ho b,he]
    · rw[Hu hj]
   rw[hz,f x']
   refine h.perm (List.Perm.cons _ ?_)
   simp only[GW,HU]
   exact Ix.symm
 · refine List.Perm.cons _ ?_
   simp only[GW,HU]
   exact Ix
end
end Go.Sim
namespace Go.Sim
open Go
section
variable {P:Program} {ops:Array Oper} {Q:Exit→Act→World→Prop} {rest:List Oper} {F0:Fz} {n:Nat} {E:List (Nat×SV)} {L:List bx}
variable {d:Nat} {op:Op} {ty:TypeId} {pos:String} {aft:Array Edge} {s:SV}
theorem LD {β γ τ:Type} {KR:Kd γ} {KT:Kd τ} {mk:β→Value→γ} {tg:β→List τ} {TE TT e t:TypeId} {v:Value} {xs:List β} {X:Operand} (hR:cN KR) (hT:cN KT) (ht:P.underlying t=some (.slice e)) (hX:ev E X=some (.raw v)) (hd:Nat.blt d n=true) (k:aC F0 n ((d,.raw (.int .i64 xs.length))::E) (mO KR KT mk tg TE TT v xs::L) (wpList P f Q b)):aC F0 n E (mO KR KT mk tg TE TT v xs::L) (wpList P f Q (⟨some d,.call ⟨.builtin .len,#[X],#[t]⟩,ty,pos,aft,none⟩::b)):=λF a w h0 hE hS=>by obtain⟨qs,hl,g⟩:=hS.manyOpen hR hT;(have c:(List.zipWith mk xs qs).length=xs.length:=by simp[hl]);refine No (L:=f_ KT tg TT xs qs++L) ht hX hd (λF a w h0 hE h=>?_) F a w h0 hE g;rw[c] at hE;exact k F a w h0 hE (Lj hl h)
theorem KD {β γ τ:Type} {KR:Kd γ} {KT:Kd τ} {mk:β→Value→γ} {tg:β→List τ} {TE TT:TypeId} {v:Value} {xs:List β} {X:Act→World→Prop} (hR:cN KR) (hT:cN KT) (k:v.oneCell'=true→aC F0 n E (mO KR KT mk tg TE TT v xs::L) X):aC F0 n E (mO KR KT mk tg TE TT v xs::L) X:=λF a w h0 hE hS=>by obtain⟨qs,hl,hS2⟩:=hS.manyOpen hR hT;obtain⟨f,hf,_⟩:=hS2;refine k ?_ F a w h0 hE hS;rcases hf with⟨rfl,_⟩|⟨g,cap,cur,rfl,_⟩<;>rfl
theorem Mv (k:aC F0 n E (bif b then L else r::L) X):aC F0 n E (r::L) X:=by cases b with|true=>exact Mt k|false=>exact k
theorem LN (h:∀F w,St F w L→St F w L') (k:aC F0 n E L' X):aC F0 n E L X:=λF a w h0 hE hS=>k F a w h0 hE (h F w hS)
end
end Go.Sim
namespace Go.Sim
open Go
structure Tk where
 deps:List Nat
 res:(Nat→Value)→bx
 ok:∀bs bs':Nat→Value,(∀k∈deps,bs k=bs' k)→res bs=res bs'
def QI (r:bx):Tk:=⟨[],λ_=>r,λ_ _ _=>rfl⟩
def mN (k:Nat) (r:Value→bx):Tk:=⟨[k],λbs=>r (bs k),λ_ _ h=>by rw[h k (by simp)]⟩
structure Sk where
 deps:List Nat
 sv:(Nat→Value)→SV
 ok:∀bs bs':Nat→Value,(∀k∈deps,bs k=bs' k)→sv bs=sv bs'
def bG (r:SV):Sk:=⟨[],λ_=>r,λ_ _ _=>rfl⟩
def h_ (k:Nat) (r:Value→SV):Sk:=⟨[k],λbs=>r (bs k),λ_ _ h=>by rw[h k (by simp)]⟩
structure qB where
 val:Sk
 used:List Nat
 outs:List (Nat×Tk)
 rds:List Nat:=[]
structure uB where
 id:Nat
 prod:Option Nat
 tk:Tk
def OM:List qB→Nat→List uB|[],_=>[]|it::r,j=>it.outs.map (λx=>⟨x.1,some j,x.2⟩)++OM r (j+1)
def hP (a:List (Nat×bx)) (its:List qB):List uB:=a.map (λx=>⟨x.1,none,QI x.2⟩)++OM its 0
def jK:List uB→Nat→Option uB|[],_=>none|t::r,i=>cond (Nat.beq t.id i) (some t) (jK r i)
def z8 (tab:List uB):List Nat→(Nat→Value)→List bx|[],_=>[]|i::r,bs=>match jK tab i with|some t=>t.tk.res bs::z8 tab r bs|none=>z8 tab r bs
def kT (tab:List uB):List Nat→(Nat→Value)→List (List bx)|[],_=>[[]]|[i],bs=>[match jK tab i with|some t=>[t.tk.res bs]|none=>[]]|i::r,bs=>(match jK tab i with|some t=>[t.tk.res bs]|none=>[])::kT tab r bs
def wT:List qB→Nat→Nat→Option Nat|[],_,_=>none|it::r,j,i=>cond (eG i it.used) (some j) (wT r (j+1) i)
def lX (its:List qB):List Nat:=its.flatMap (·.used)
def OB:List uB→List Nat→(Nat→Value)→List bx|[],_,_=>[]|t::r,us,bs=>cond (eG t.id us) (OB r us bs) (t.tk.res bs::OB r us bs)
def O6 (bs:Nat→Value) (k:Nat) (v:Value):Nat→Value:=λq=>cond (Nat.beq q k) v (bs q)
theorem EV (bs:Nat→Value) (v:Value) (h:q≠k):O6 bs k v q=bs q:=by unfold O6;cases hb:Nat.beq q k with|false=>rfl|true=>exact absurd (Hw hb) h
def Of (l:List Oper) (g:List Nat) (k j:Nat):Bool:=Nat.blt k g.length&&eG (g.getD k 0) ((lT l []).getD (g.getD j 0) [])
def tq (l:List Oper) (g:List Nat) (tab:List uB) (its:List qB) (us:List Nat) (k:Nat):Bool→Option Nat→List Nat→Bool|_,a,[]=>(match a with|some c=>Of l g k c|none=>true)|first,a,i::r=>match jK tab i with|some t=>(cond first (match t.prod with|some q=>Of l g q k|none=>true) (match t.prod,a with|some q,some c=>Nat.beq q c|_,_=>false))&& !eG i us&&tq l g tab its us k false (wT its 0 i) r|none=>false
def Ro (l:List Oper) (g:List Nat) (tab:List uB) (it:qB) (j:Nat):Bool:=it.used.all (λi=>match jK tab i with|some t=>(match t.prod with|some q=>Of l g q j|none=>true)|none=>false)&&it.outs.all (λx=>x.2.deps.all λk=>Nat.beq k j||Of l g k j)&&it.val.deps.all (λk=>Nat.beq k j||Of l g k j)
def wU (l:List Oper) (g:List Nat) (tab:List uB) (a:List qB):List qB→Nat→Bool|[],_=>true|it::r,j=>Ro l g tab it j&&(match it.rds with|[]=>true|rs=>tq l g tab a it.used j true none rs)&&wU l g tab a r (j+1)
def P6 (l:List Oper) (g:List Nat) (a:List (Nat×bx)) (its:List qB):Bool:=pS ((hP a its).map (·.id))&&pS (lX its)&&wU l g (hP a its) its its 0
theorem rm:∀{its:List qB} {j k:Nat} {it:qB},wU l g tab a its j=true→its[k]? =some it→Ro l g tab it (j+k)=true∧(it.rds=[]∨tq l g tab a it.used (j+k) true none it.rds=true)|[],_,_,_,_,h=>by simp at h|it0::r,j,0,it,h,e=>(by simp at e;subst e;simp only[wU,GH] at h;refine⟨h.1.1,?_⟩;have h2:=h.1.2;cases hr:it0.rds with|nil=>exact .inl rfl|cons x xs=>rw[hr] at h2;exact .inr h2)|it0::r,j,k+1,it,h,e=>by simp only[wU,GH] at h;have:=rm (j:=j+1) (k:=k) h.2 (by simpa using e);rw[show j+(k+1)=j+1+k by omega];exact this
theorem wV:∀{its:List qB} {j:Nat},wT its j i=none→∀(q:Nat) (it:qB),its[q]? =some it→i∉it.used|[],_,_,q,it,h=>by simp at h|a::r,j,h,q,it,hq=>by rw[wT] at h;cases hm:eG i a.used with|true=>rw[hm] at h;cases h|false=>rw[hm,Gx] at h;cases q with|zero=>simp at hq;subst hq;exact λhi=>by rw[dp.2 hi] at hm;cases hm|succ q=>exact wV h q it (by simpa using hq)
theorem wW:∀{its:List qB} {j:Nat},wT its j i=some c→∃q it,c=j+q∧its[q]? =some it∧i∈it.used|[],_,h=>by cases h|a::r,j,h=>by rw[wT] at h;cases hm:eG i a.used with|true=>rw[hm,Gy] at h;cases h;exact⟨0,a,by omega,by simp,dp.1 hm⟩|false=>rw[hm,Gx] at h;obtain⟨q,it,h1,h2,h3⟩:=wW h;exact⟨q+1,it,by omega,by simpa using h2,h3⟩
theorem rn {t:uB}:∀{tab:List uB},jK tab i=some t→t∈tab∧t.id=i|[],h=>by cases h|u::r,h=>by rw[jK] at h;cases hb:Nat.beq u.id i with|true=>rw[hb,Gy] at h;cases h;exact⟨by simp,Hw hb⟩|false=>rw[hb,Gx] at h;have:=rn h;exact⟨by simp[this.1],this.2⟩
theorem sG {tab:List uB} (hn:(tab.map (·.id)).Nodup) {t:uB} (h:t∈tab):jK tab t.id=some t:=by induction tab with|nil=>cases h|cons u r ih=>rw[jK];rcases Hc.1 h with rfl|h;rw[Nat.beq_refl];rfl;(have a:u.id≠t.id:=λe=>by simp only[G6,Ib,Hk] at hn;exact hn.1 ⟨t,h,e.symm⟩);(have:Nat.beq u.id t.id=false:=by cases hb:Nat.beq u.id t.id with|false=>rfl|true=>exact absurd (Hw hb) a);rw[this,Gx];exact ih (Ib.1 (by simpa using hn)).2 h
theorem Gj {tab:List uB} (hn:(tab.map (·.id)).Nodup) {t u:uB} (ht:t∈tab) (hu:u∈tab) (e:t.id=u.id):t=u:=by have h1:=sG hn ht;have h2:=sG hn hu;rw[e,h2] at h1;exact(Option.some.inj h1).symm
theorem nu:∀{its:List qB} {j:Nat},t∈OM its j↔∃k it x,its[k]? =some it∧x∈it.outs∧t=⟨x.1,some (j+k),x.2⟩|[],j=>by simp[OM]|it::r,j=>by simp only[OM,G3,Hk,nu (its:=r) (j:=j+1)];constructor;rintro(⟨x,hx,rfl⟩|⟨k,it',x,h1,h2,rfl⟩);exact⟨0,it,x,by simp,hx,rfl⟩;exact⟨k+1,it',x,by simpa using h1,h2,by rw[show j+(k+1)=j+1+k by omega]⟩;rintro⟨k,it',x,h1,h2,rfl⟩;cases k with|zero=>simp at h1;subst h1;exact .inl ⟨x,h2,rfl⟩|succ k=>exact .inr ⟨k,it',x,by simpa using h1,h2,by rw[show j+(k+1)=j+1+k by omega]⟩
theorem Bm:∀{tab:List uB},OB tab us bs=(tab.filter (λt=> !eG t.id us)).map (λt=>t.tk.res bs)|[]=>rfl|t::r=>by rw[OB,JH];cases eG t.id us<;>simp[Bm (tab:=r)]
theorem Bn:∀{us:List Nat},z8 tab us bs=(us.filterMap (jK tab)).map (λt=>t.tk.res bs)|[]=>rfl|i::r=>by rw[z8,List.filterMap_cons];cases jK tab i<;>simp[Bn (us:=r)]
theorem om {k i:Nat} {it:qB} (h:its[k]? =some it) (hi:i∈it.used):i∈lX its:=Jk.2 ⟨it,Hb h,hi⟩
theorem tt:∀{its:List qB} {j k i:Nat} {it a:qB},(lX its).Nodup→its[j]? =some it→its[k]? =some a→i∈it.used→i∈a.used→j=k|[],_,_,_,_,_,_,h,_,_,_=>by simp at h|b::r,j,k,i,it,a,hn,hj,hk,h1,h2=>by(have c:(b.used++lX r).Nodup:=by simpa[lX] using hn);obtain⟨n1,n2,n3⟩:=Ik.1 c;cases j with|zero=>(simp at hj;subst hj;cases k with|zero=>rfl|succ k=>exact absurd rfl (n3 i h1 i (om (by simpa using hk) h2)))|succ j=>cases k with|zero=>simp at hk;subst hk;exact absurd rfl (n3 i h2 i (om (by simpa using hj) h1))|succ k=>have e:=tt (its:=r) (j:=j) (k:=k) n2 (by simpa using hj) (by simpa using hk) h1 h2;omega
theorem wX:∀{its:List qB} {k:Nat} {it:qB},(lX its).Nodup→its[k]? =some it→it.used.Nodup|[],_,_,_,h=>by simp at h|b::r,k,it,hn,h=>by(have a:(b.used++lX r).Nodup:=by simpa[lX] using hn);cases k with|zero=>simp at h;subst h;exact(Ik.1 a).1|succ k=>exact wX (Ik.1 a).2.1 (by simpa using h)
def nv (G:Fz) (n:Nat) (L:List bx) (k:Nat) (bs:Nat→Value) (it:qB) (b:Option Nat):Act→World→Prop:=λa w=>∃H v,G≤H∧(match b with|some d=>∃u,a.tmps[d]? =some u∧(it.val.sv (O6 bs k v)).ok H u|none=>True)∧St H w (it.outs.map (λx=>x.2.res (O6 bs k v))++L)∧a.defers=[]
def UA:Option Nat→SV→List (Nat×SV)→List (Nat×SV)|some d,s,E=>(d,s)::E|none,_,E=>E
def k9 (P:Program) (n:Nat) (tab:List uB) (Lf:List bx→List bx) (a:Array Oper) (F0:Fz) (bs:Nat→Value) (K:List (Nat×SV)→Prop):Nat→List qB→List (List Nat)→List Oper→List (Nat×SV)→Prop|j,it::its,us::p,o::l,E=>(∀R,R∈kT tab it.rds bs→∀G T,F0≤G→aC G n (gW us E) (z8 tab it.used bs++(R++Lf T)) (wpList P a (Exit.then (nv G n (R++Lf T) j bs it o.dst) QF) [o]))∧k9 P n tab Lf a F0 bs K (j+1) its p l (UA o.dst (it.val.sv bs) E)|_,[],[],[],E=>K E|_,_,_,_,_=>False
section
variable {P:Program} {ops:Array Oper} {Q:Exit→Act→World→Prop} {rest:List Oper} {F0:Fz} {n:Nat} {E:List (Nat×SV)} {L:List bx}
variable {d:Nat} {op:Op} {ty:TypeId} {pos:String} {aft:Array Edge} {s:SV} {Lf:List bx→List bx} {tab:List uB}
theorem Bo:∀{its:List qB} {p:List (List Nat)} {l:List Oper} {E:List (Nat×SV)} {j:Nat},k9 P n tab Lf a F0 bs K j its p l E→its.length=l.length∧K (kX l (its.map (λit=>it.val.sv bs)) E)∧∀(i:Nat) o us it,l[i]? =some o→p[i]? =some us→its[i]? =some it→∀R,R∈kT tab it.rds bs→∀G T,F0≤G→aC G n (gW us (kX (l.take i) ((its.take i).map (λit=>it.val.sv bs)) E)) (z8 tab it.used bs++(R++Lf T)) (wpList P a (Exit.then (nv G n (R++Lf T) (j+i) bs it o.dst) QF) [o])|[],[],[],E,j,h=>⟨rfl,by simpa[kX,k9] using h,λi o us it hi=>by simp at hi⟩|it::its,us::p,o::l,E,j,h=>(by obtain⟨h1,h2⟩:=h;obtain⟨e1,e2,e3⟩:=Bo h2;refine⟨by simp[e1],?_,λi q b c hi hp hs=>?_⟩;rw[G6,kX];(cases hd:o.dst with|none=>rw[hd] at e2;exact e2|some d=>rw[hd] at e2;exact e2);cases i with|zero=>simp at hi hp hs;subst hi;subst hp;subst hs;simpa[kX] using h1|succ i=>have:=e3 i q b c (by simpa using hi) (by simpa using hp) (by simpa using hs);rw[List.take_succ_cons,List.take_succ_cons,G6,kX,show j+(i+1)=j+1+i by omega];cases hd:o.dst with|none=>rw[hd] at this;exact this|some d=>rw[hd] at this;exact this)|[],_::_,_,_,_,h=>by simp[k9] at h|[],[],_::_,_,_,h=>by simp[k9] at h|_::_,[],_,_,_,h=>by simp[k9] at h|_::_,_::_,[],_,_,h=>by simp[k9] at h
theorem Bp {o:Oper} {a:Act} {it:qB} (hi:ops[i]? =some o)
   (h:wpList P ops (Exit.then (nv G n L k bs it o.dst) QF) [o] a w) (hlt:∀d,o.dst=some d→d<a.tmps.size) (hdef:a.defers=[]):
   wpOp P ops Q i (λa' w'=>∃v x H,a'=a.put o.dst v∧G≤H∧(∀d,o.dst=some d→(it.val.sv (O6 bs k x)).ok H v)∧St H w' (it.outs.map (λy=>y.2.res (O6 bs k x))++L)) a w:=by
 have fin:∀v w',nv G n L k bs it o.dst (a.put o.dst v) w'→∃v' x H,a.put o.dst v=a.put o.dst v'∧G≤H∧(∀d,o.dst=some d→(it.val.sv (O6 bs k x)).ok H v')∧St H w' (it.outs.map (λy=>y.2.res (O6 bs k x))++L):=λv w' ⟨H,x,h1,h2,h3,_⟩=>by
   refine⟨v,x,H,rfl,h1,λd hd=>?_,h3⟩
   rw[hd] at h2
   obtain⟨u,hu,ho⟩:=h2
   simp only[Act.put] at hu
   rw[G8 (hlt d hd)] at hu
   cases hu;exact ho
 unfold wpOp
 simp only[hi]
 unfold wpList at h
 split
 · rename_i hw
   rw[Hv hw] at h
   refine .inl ?_
   rcases h with h|⟨_,hlets⟩
   case inr=>exact absurd hlets (λhl=>by simp[LetsOut,QF,Exit.then] at hl)
   unfold Oper.wp at*
   generalize (execOp a.eval o).run P w=r at*
   cases r with
   |ok nx w'=>
    cases nx<;>simp only[Oper.upon] at h⊢
    case value u=>exact fin _ _ h
    case skip=>exact fin _ _ h
    case defer dd=>
     obtain⟨H,x,h1,h2,h3,h4⟩:=h
     exfalso
     cases hd:o.dst<;>simp[Act.put,hd] at h4
    case enter f args=>
     refine Calls.mono h λe w'' he=>?_
     cases e with
     |returned u=>exact fin _ _ he
     |panicked c=>exact he.elim
     |outgrown=>obtain⟨_,_,x⟩:=he;exact x.elim
    case row row args=>exact Rows.mono h λu w'' he=>fin _ _ he
   |halt x w'=>
    cases x<;>simp only[Oper.upon] at h⊢<;>exact h.elim
 · rename_i hw
   rw[Hu hw] at h
   exact fin _ _ h
def uD (g:List Nat) (a:Array Bool) (q:Nat):Prop:=∃i,g[q]? =some i∧a.getD i false=true
def Gp (tab:List uB) (its:List qB) (g:List Nat) (a:Array Bool) (t:uB):Prop:=t∈tab∧(∀q,t.prod=some q→uD g a q)∧∀q it,its[q]? =some it→t.id∈it.used→¬uD g a q
structure SI (F:Fz) (n:Nat) (tab:List uB) (Lf:List bx→List bx) (L0:List bx) (l:List Oper) (D g:List Nat) (its:List qB) (E:List (Nat×SV)) (listed:Array Bool) (a:Act) (w:World):Prop where
 size:listed.size=l.length
 closed:∀j o,l[j]? =some o→listed.getD j false=true→∀e∈eB o,listed.getD e false=true
 dl:∀j∈D,j<l.length→listed.getD j false=true
 ex:∀j,j<l.length→listed.getD j false=true→j∈D∨j∈g
 st:∃G,∃bs:Nat→Value,∃ks:List uB,F≤G∧St G w (Lf (ks.map (λt=>t.tk.res bs)++L0))∧(ks.map (·.id)).Nodup∧(∀t,t∈ks↔Gp tab its g listed t)∧a.defers=[]∧a.tmps.size=n∧
  (∀(k i:Nat) (o:Oper) (d:Nat) (it:qB),g[k]? =some i→l[i]? =some o→o.dst=some d→its[k]? =some it→listed.getD i false=true→∃v,a.tmps[d]? =some v∧(it.val.sv bs).ok G v)∧
  (∀(t:Nat) (s:SV),look E t=some s→(∀(i:Nat) (o:Oper),i∈g→l[i]? =some o→listed.getD i false=true→o.dst≠some t)→∃v,a.tmps[t]? =some v∧s.ok G v)
theorem kU {ks:List uB} (h:(ks.map (·.id)).Nodup):ks.Nodup:=(JB.1 h).imp λa e=>a (by rw[e])
set_option maxHeartbeats 1600000 in
theorem EW {l:List Oper} {D g:List Nat} {p:List (List Nat)} {its:List qB} {ini:List (Nat×bx)} {F:Fz} {L0:List bx} (hLf:∀r T,(r::Lf T).Perm (Lf (r::T))) (hB:GB l D g p) (hits:its.length=(pick l g).length) (hT:P6 l g ini its=true)
  (hn:∀o∈pick l g,∀d,o.dst=some d→d<n)
  (hop:∀(bs:Nat→Value) (k:Nat) o us it,(pick l g)[k]? =some o→p[k]? =some us→its[k]? =some it→∀R,R∈kT (hP ini its) it.rds bs→∀G T,F≤G→aC G n (gW us (kX ((pick l g).take k) ((its.take k).map (λit=>it.val.sv bs)) E)) (z8 (hP ini its) it.used bs++(R++Lf T)) (wpList P l.toArray (Exit.then (nv G n (R++Lf T) k bs it o.dst) QF) [o]))
  (hfin:∀(bs:Nat→Value) G a w,F≤G→Env G a n (kX (pick l g) (its.map (λit=>it.val.sv bs)) E)→St G w (Lf (OB (hP ini its) (lX its) bs++L0))→m8 P Q l (g++D) a w):
  ∀(fuel:Nat) (listed:Array Bool) (a:Act) (w:World),L_ listed≤fuel→SI F n (hP ini its) Lf L0 l D g its E listed a w→wpAny P .any l.toArray Q fuel listed a w:=by
 have hlen:=Be hB.lt
 simp only[P6,GH] at hT
 obtain⟨⟨hT1,hT2⟩,hT3⟩:=hT
 replace hT1:=jZ hT1
 replace hT2:=jZ hT2
 have tJ:∀{k:Nat} {it:qB},its[k]? =some it→Ro l g (hP ini its) it k=true:=λ{k it} h=>by have:=(rm hT3 h).1;rwa [G5] at this
 have hrdB:∀{k:Nat} {it:qB},its[k]? =some it→it.rds=[]∨tq l g (hP ini its) its it.used k true none it.rds=true:=λ{k it} h=>by have:=(rm hT3 h).2;rwa [G5] at this
 have befS:∀{k j:Nat},Of l g k j=true→k<g.length∧g.getD k 0∈((lT l [])[g.getD j 0]?).getD []:=λ{k j} h=>by
  simp only[Of,GH,H4] at h
  exact⟨h.1,by have:=dp.1 h.2;simpa[List.getD] using this⟩
 have lfp:∀{X Y:List bx},X.Perm Y→(Lf X).Perm (Lf Y):=λ{X Y} h=>by
  have:=Gi hLf h []
  simpa using this
 have atEnd:∀(fuel:Nat) (listed:Array Bool) (a:Act) (w:World),L_ listed≤fuel→SI F n (hP ini its) Lf L0 l D g its E listed a w→(∀i∈g,listed.getD i false=true)→wpAny P .any l.toArray Q fuel listed a w:=by
  intro fuel listed a w hc inv all
  obtain⟨G,bs,ks,hg,hS,hnd,hks,hd,hsz,hA,hB'⟩:=inv.st
  have allL:∀q,q<g.length→uD g listed q:=λq hq=>⟨g[q],by simp[hq],all _ (GV hq)⟩
  have hkp:ks.Perm ((hP ini its).filter (λt=> !eG t.id (lX its))):=by
    refine(List.perm_ext_iff_of_nodup (kU hnd) ((kU hT1).filter _)).2 λt=>?_
    rw[hks,HX]
    constructor
    · rintro⟨h1,h2,h3⟩
      refine⟨h1,?_⟩
      cases hm:eG t.id (lX its) with
      |false=>rfl
      | true =>
        obtain⟨it,hit,hi⟩:=Jk.1 (dp.1 hm)
        obtain⟨q,hq⟩:=Hd.1 hit
        have hql:=(GC.1 hq).1
        exact absurd (allL q (by omega)) (h3 q it hq hi)
    · rintro⟨h1,h2⟩
      refine⟨h1,λq hq=>?_,λq it hq hi=>?_⟩
      · rcases G3.1 h1 with h|h
        · obtain⟨x,_,rfl⟩:=Hk.1 h;cases hq
        · obtain⟨k,it,x,h4,h5,rfl⟩:=nu.1 h
          cases hq
          have:=(GC.1 h4).1
          exact allL _ (by omega)
      · rw[dp.2 (om hq hi)] at h2;cases h2
  have hS2:St G w (Lf (OB (hP ini its) (lX its) bs++L0)):=hS.perm (lfp (by rw[Bm];exact(hkp.map _).append_right _))
  refine hfin bs G a w hg ⟨hd,hsz,λt s e=>?_⟩ hS2 fuel listed hc ⟨inv.size,inv.closed,λj hj=>⟨λh=>?_,λh=>?_⟩⟩
  · by_cases hw:∃o∈pick l g,o.dst=some t
    · obtain⟨o,ho,hot⟩:=hw
      obtain⟨k,hk⟩:=Hd.1 ho
      have hkl:k<(pick l g).length:=(GC.1 hk).1
      have hkg:g[k]? =some g[k]:=by
        have:k<g.length:=by omega
        simp[this]
      have hki:k<its.length:=by omega
      have hik:its[k]? =some its[k]:=by simp[hki]
      rw[wS hB.dsts hk hot (show(its.map (λit=>it.val.sv bs))[k]? =some (its[k].val.sv bs) by simp[hki])] at e
      cases e
      have hl:=lO hB.lt k _ hkg
      exact hA k _ o t _ hkg (by rw[←hl];exact hk) hot hik (all _ (Hb hkg))
    · rw[m9 (λo ho e=>hw ⟨o,ho,e⟩)] at e
      refine hB' t s e λi o hi hl _ e'=>hw ⟨o,?_,e'⟩
      obtain⟨k,hk⟩:=Hd.1 hi
      have:=lO hB.lt k i hk
      exact Hb (this.trans hl)
  · rcases inv.ex j hj h with h|h
    · exact JG _ h
    · exact JM _ h
  · rcases G3.1 h with h|h
    · exact all j h
    · exact inv.dl j h hj
 intro fuel
 induction fuel with
 |zero=>
  intro listed a w hc inv
  refine atEnd 0 listed a w hc inv λi hi=>?_
  cases hl:listed.getD i false with
  |true=>rfl
  | false =>
    exfalso
    have hlt:i<listed.size:=by have:=hB.lt i hi;have:=inv.size;omega
    have hun:listed.getD i true=false:=by simp[hlt] at hl⊢;exact hl
    have:=np hun;omega
 |succ fuel ih=>
  intro listed a w hc inv
  by_cases hall:∀i∈g,listed.getD i false=true
  · exact atEnd _ listed a w hc inv hall
  · have hex:∃k:Nat,∃i,g[k]? =some i∧listed.getD i false=false:=by
      refine Classical.byContradiction λhno=>hall λi hi=>?_
      obtain⟨k,hk⟩:=Hd.1 hi
      cases hl:listed.getD i false with
      |true=>rfl
      |false=>exact absurd ⟨k,i,hk,hl⟩ hno
    have hready:∃i,i∈Region.ready .any l.toArray listed:=by
      obtain⟨k,i,hk,hl⟩:=hex
      induction k using Nat.strongRecOn generalizing i with
      | _ k ihk =>
        by_cases hbef:∃q,q<k∧∃j,g[q]? =some j∧listed.getD j false=false
        · obtain⟨q,hq,j,hj,hlj⟩:=hbef
          exact ihk q hq j hj hlj
        · obtain⟨o,us,ho,_,_,_,haf,_⟩:=hB.op k i hk
          have hil:i<l.length:=hB.lt i (Hb hk)
          have hlt:i<listed.size:=by have:=inv.size;omega
          refine⟨i,JZ.2 ⟨by simp[hlt] at hl⊢;exact hl,o,by simpa using ho,pU λe he=>?_⟩⟩
          obtain⟨h1,h2|h2⟩:=haf e he
          · exact inv.dl e h2 h1
          · obtain⟨q,hq⟩:=Hd.1 h2
            have hqk:q<k:=by have:=(GC.1 hq).1;simp at this;omega
            rw[GY hqk] at hq
            cases hle:listed.getD e false with
            |true=>rfl
            |false=>exact absurd ⟨q,hqk,e,hq,hle⟩ hbef
    refine⟨λh0=>(by obtain⟨i,hi⟩:=hready;rw[h0] at hi;cases hi),λi hi=>?_⟩
    obtain⟨hun,o,ho,haft⟩:=JZ.1 hi
    have ho':l[i]? =some o:=by simpa using ho
    have hil:i<l.length:=(GC.1 ho').1
    have hlist:=re haft
    have hlt:i<listed.size:=by have:=inv.size;omega
    have hunf:listed.getD i false=false:=by simp[hlt] at hun⊢;exact hun
    have hiD:i∉D:=λh=>by rw[inv.dl i h hil] at hunf;cases hunf
    have hig:i∈g:=by
      rcases hB.others i hil with h|h|h
      · exact absurd h hiD
      · exact h
      · exact absurd (λj hj=>jg (λj=>listed.getD j false=true) inv.closed ho' hlist j (h j hj)) hall
    obtain⟨k,hk⟩:=Hd.1 hig
    obtain⟨o2,us,ho2,hpk,hus,hsel,haf,hwr⟩:=hB.op k i hk
    rw[ho'] at ho2;cases ho2
    have hkl:k<(pick l g).length:=(GC.1 hpk).1
    have hki:k<its.length:=by omega
    have hit:its[k]? =some its[k]:=by simp[hki]
    obtain⟨G,bs,ks,hg,hS,hnd,hks,hdf,hsz,hA,hB'⟩:=inv.st
    have hgk:g.getD k 0=i:=by simp[List.getD,hk]
    have uniq:∀q,g[q]? =some i→q=k:=λq hq=>by
      have e1:=(GC.1 hq).2
      have e2:=(GC.1 hk).2
      exact(List.getElem_inj hB.nodup).1 (e1.trans e2.symm)
    have hkun:¬uD g listed k:=λ⟨j,h1,h2⟩=>by rw[hk] at h1;cases h1;rw[hunf] at h2;cases h2
    have bef_lst:∀{q:Nat},Of l g q k=true→uD g listed q:=λ{q} h=>by
      obtain⟨h1,h2⟩:=befS h
      rw[hgk] at h2
      exact⟨g.getD q 0,by simp[List.getD,h1],jg (λj=>listed.getD j false=true) inv.closed ho' hlist _ h2⟩
    -- what hangs on a listed operation's tellings does not hang on this one
    have dep_lst:∀{q j:Nat},Of l g q j=true→uD g listed j→uD g listed q:=λ{q j} h ⟨j1,hj1,hl1⟩=>by
      obtain⟨h1,h2⟩:=befS h
      obtain⟨o3,_,ho3,_⟩:=hB.op j _ hj1
      have hgq:g.getD j 0=j1:=by simp[List.getD,hj1]
      rw[hgq] at h2
      exact⟨g.getD q 0,by simp[List.getD,h1],jg (λj=>listed.getD j false=true) inv.closed ho3 (inv.closed _ o3 ho3 hl1) _ h2⟩
    have dne:∀d q j o' d',o.dst=some d→g[q]? =some j→l[j]? =some o'→o'.dst=some d'→i≠j→d≠d':=λd q j o' d' hd hq hj hd' hji e=>by
      subst e
      have hpq:=lO hB.lt q j hq
      have:=th hB.dsts hpk (hpq.trans hj) hd hd'
      subst this
      rw[hk] at hq;cases hq;exact hji rfl
    have hEnv:∀t s,look (gW us (kX ((pick l g).take k) ((its.take k).map (λit=>it.val.sv bs)) E)) t=some s→∃v,a.tmps[t]? =some v∧s.ok G v:=by
      intro t s e
      rw[ra] at e
      split at e
      · rename_i htu
        have hwt:=hwr t htu
        by_cases hw:∃q∈(pick l g).take k,q.dst=some t
        · obtain⟨o',hq,hqt⟩:=hw
          obtain⟨q,hq'⟩:=Hd.1 hq
          have hqk:q<k:=by have:=(GC.1 hq').1;simp at this;omega
          have hpq:(pick l g)[q]? =some o':=by rw[GY hqk] at hq';exact hq'
          have hgq:g[q]? =some g[q]:=by
            have:q<g.length:=by omega
            simp[this]
          have hlq:=lO hB.lt q _ hgq
          have hlo:l[g[q]]? =some o':=by rw[←hlq];exact hpq
          have hqi:q<its.length:=by omega
          have hsq:((its.take k).map (λit=>it.val.sv bs))[q]? =some (its[q].val.sv bs):=by simp[hqi,hqk]
          have hndt:(((pick l g).take k).filterMap (·.dst)).Nodup:=hB.dsts.sublist ((List.take_sublist k _).filterMap _)
          rw[wS hndt hq' hqt hsq] at e
          cases e
          refine hA q _ o' t _ hgq hlo hqt (by simp[hqi]) ?_
          exact jg (λj=>listed.getD j false=true) inv.closed ho' hlist _ ((hwt q _ o' hgq hlo hqt).1 hqk)
        · rw[m9 (λx hx e'=>hw ⟨x,hx,e'⟩)] at e
          refine hB' t s e λj o' hj hlj hlisted hqt=>?_
          obtain⟨q,hq⟩:=Hd.1 hj
          have hpq:=lO hB.lt q j hq
          have hqk:¬q<k:=λh=>hw ⟨o',by
            have:((pick l g).take k)[q]? =some o':=by rw[GY h,hpq];exact hlj
            exact Hb this,hqt⟩
          by_cases hqk2:q=k
          · subst hqk2
            rw[hk] at hq;cases hq
            rw[hunf] at hlisted;cases hlisted
          · have:=jg (λj=>listed.getD j false=true) inv.closed hlj (inv.closed j o' hlj hlisted) i ((hwt q j o' hq hlj hqt).2 (by omega))
            rw[hunf] at this;cases this
      · cases e
    -- the tokens that it takes
    have hib:=tJ hit
    simp only[Ro,GH,Hq] at hib
    obtain⟨⟨hib1,hib2⟩,hib3⟩:=hib
    have husedlive:∀x∈its[k].used,∃t,jK (hP ini its) x=some t∧t∈ks∧t.id=x:=λx hx=>by
      have h1:=hib1 x hx
      cases hf:jK (hP ini its) x with
      |none=>rw[hf] at h1;cases h1
      | some t =>
        rw[hf] at h1
        obtain⟨h2,h3⟩:=rn hf
        refine⟨t,rfl,(hks t).2 ⟨h2,λq hq=>?_,λq it hq hi hl=>?_⟩,h3⟩
        · simp only[hq] at h1;exact bef_lst h1
        · rw[h3] at hi
          have:=tt hT2 hq hit hi hx
          subst this
          exact hkun hl
    have hsp:ks.Perm (its[k].used.filterMap (jK (hP ini its))++ks.filter (λt=> !eG t.id its[k].used)):=by
      have hidu:(its[k].used.filterMap (jK (hP ini its))).map (·.id)=its[k].used:=by
        have:∀us:List Nat,(∀x∈us,∃t,jK (hP ini its) x=some t∧t∈ks∧t.id=x)→(us.filterMap (jK (hP ini its))).map (·.id)=us:=by
          intro us
          induction us with
          |nil=>intro _;rfl
          | cons x us ih =>
            intro h
            obtain⟨t,h1,_,h3⟩:=h x (by simp)
            rw[List.filterMap_cons,h1]
            simp only[G6,h3,ih λy hy=>h y (by simp[hy])]
        exact this _ husedlive
      have hndu:(its[k].used.filterMap (jK (hP ini its))).Nodup:=kU (by rw[hidu];exact wX hT2 hit)
      refine(List.perm_ext_iff_of_nodup (kU hnd) (Ik.2 ⟨hndu,(kU hnd).filter _,λx hx y hy e=>?_⟩)).2 λt=>?_
      · subst e
        have h1:x.id∈its[k].used:=by rw[←hidu];exact List.mem_map_of_mem hx
        have:=(HX.1 hy).2
        rw[dp.2 h1] at this;cases this
      · rw[G3,HX,I0]
        constructor
        · intro h
          cases hm:eG t.id its[k].used with
          |false=>exact .inr ⟨h,by simp⟩
          |true=>exact .inl ⟨t.id,dp.1 hm,sG hT1 ((hks t).1 h).1⟩
        · rintro(⟨x,hx,hf⟩|⟨h,_⟩)
          · obtain⟨t',h1,h2,_⟩:=husedlive x hx
            rw[hf] at h1;cases h1;exact h2
          · exact h
    -- what it looks at
    have hread:∃rl:List uB,rl.map (λt=>t.tk.res bs)∈kT (hP ini its) its[k].rds bs∧∃rest,(ks.filter (λt=> !eG t.id its[k].used)).Perm (rl++rest):=by
      rcases hrdB hit with h0|h0
      · exact⟨[],by rw[h0];simp[kT],_,List.Perm.refl _⟩
      · have key:∀(rs:List Nat) (first:Bool) (prev:Option Nat),tq l g (hP ini its) its its[k].used k first prev rs=true→(first=true→rs≠[])→(first=false→∃c,prev=some c∧uD g listed c)→
            ∃t∈ks,eG t.id its[k].used=false∧[t.tk.res bs]∈kT (hP ini its) rs bs:=by
          intro rs
          induction rs with
          | nil =>
            intro first prev h h1 h2
            cases first with
            |true=>exact absurd rfl (h1 rfl)
            | false =>
              obtain⟨c,rfl,hc⟩:=h2 rfl
              exact absurd (dep_lst h hc) hkun
          | cons i r ih =>
            intro first prev h h1 h2
            rw[tq] at h
            cases hf:jK (hP ini its) i with
            |none=>rw[hf] at h;cases h
            | some t =>
              rw[hf] at h
              simp only[GH,HG] at h
              obtain⟨⟨ha,hb⟩,hc⟩:=h
              obtain⟨f1,f2⟩:=rn hf
              have hin:[t.tk.res bs]∈kT (hP ini its) (i::r) bs:=by
                cases r with
                |nil=>simp[kT,hf]
                |cons x xs=>simp[kT,hf]
              have hprod:∀q,t.prod=some q→uD g listed q:=λq hq=>by
                cases first with
                |true=>rw[hq] at ha;exact bef_lst ha
                |false=>
                 obtain⟨c,rfl,hcl⟩:=h2 rfl
                 rw[hq] at ha
                 rw[Hw (show Nat.beq q c=true from ha)];exact hcl
              by_cases hlive:∀q it,its[q]? =some it→t.id∈it.used→¬uD g listed q
              · exact⟨t,(hks t).2 ⟨f1,hprod,hlive⟩,by rw[f2];exact hb,hin⟩
              · obtain⟨q,hq⟩:=Classical.not_forall.1 hlive
                obtain⟨it,hq⟩:=Classical.not_forall.1 hq
                obtain⟨hq1,hq⟩:=Classical.not_imp.1 hq
                obtain⟨hq2,hq⟩:=Classical.not_imp.1 hq
                have hq:=Classical.not_not.1 hq
                cases hcons:wT its 0 i with
                |none=>exact absurd hq2 (by rw[f2];exact wV hcons q it hq1)
                |some c=>
                 obtain⟨q',it',e1,e2,e3⟩:=wW hcons
                 rw[f2] at hq2
                 have e4:=tt hT2 hq1 e2 hq2 e3
                 rw[hcons] at hc
                 obtain⟨t',h5,h6,h7⟩:=ih false (some c) hc (λe=>by cases e) (λ_=>⟨c,rfl,by rw[e1,G5,←e4];exact hq⟩)
                 refine⟨t',h5,h6,?_⟩
                 cases r with
                 |nil=>simp only[kT,Hp] at h7;cases h7
                 |cons x xs=>
                  show _∈(match jK (hP ini its) i with|some t=>[t.tk.res bs]|none=>[])::kT (hP ini its) (x::xs) bs
                  exact List.mem_cons_of_mem _ h7
        have hne:its[k].rds≠[]∨its[k].rds=[]:=by cases its[k].rds<;>simp
        rcases hne with hne|hne
        · obtain⟨t,h1,h2,h3⟩:=key _ true none h0 (λ_=>hne) (λe=>by cases e)
          have hm:t∈ks.filter (λt=> !eG t.id its[k].used):=HX.2 ⟨h1,by rw[h2];rfl⟩
          obtain⟨A1,A2,e⟩:=List.append_of_mem hm
          exact⟨[t],h3,A1++A2,by rw[e];exact Ix⟩
        · exact⟨[],by rw[hne];simp[kT],_,List.Perm.refl _⟩
    obtain⟨rl,hrl,restk,hrp⟩:=hread
    have hS1:St G w (z8 (hP ini its) its[k].used bs++(rl.map (λt=>t.tk.res bs)++Lf (restk.map (λt=>t.tk.res bs)++L0))):=by
      refine hS.perm ((lfp (((hsp.map (λt=>t.tk.res bs)).append_right L0))).trans ?_)
      rw[HT,GW,Bn]
      refine(oj hLf _ _).symm.trans (JF _ ?_)
      refine(lfp ((hrp.map (λt=>t.tk.res bs)).append_right L0)).trans ?_
      rw[HT,GW]
      exact(oj hLf _ _).symm
    have hrun:=hop bs k o us _ hpk hus hit _ hrl G _ hg G a w (LO G) ⟨hdf,hsz,hEnv⟩ hS1
    have hfr:=Bp (Q:=Q) (i:=i) (by simpa using ho') hrun (λd hd=>by rw[hsz];exact hn o (Hb hpk) d hd) hdf
    refine wpOp_mono (λa' w' h=>?_) hfr
    obtain⟨u,v,H,rfl,hgh,hok,hS'⟩:=h
    have lst_set:∀q,uD g (listed.setIfInBounds i true) q↔uD g listed q∨q=k:=λq=>by
      constructor
      · rintro⟨j,h1,h2⟩
        by_cases hji:i=j
        · subst hji;exact .inr (uniq q h1)
        · rw[Ji false hji] at h2;exact .inl ⟨j,h1,h2⟩
      · rintro(⟨j,h1,h2⟩|rfl)
        · exact⟨j,h1,Iz h2⟩
        · exact⟨i,hk,by simp[hlt]⟩
    have tk_same:∀t∈ks,t.tk.res (O6 bs k v)=t.tk.res bs:=λt ht=>by
      obtain⟨h1,h2,_⟩:=(hks t).1 ht
      refine t.tk.ok _ _ λq hq=>EV _ _ λe=>?_
      subst e
      rcases G3.1 h1 with h|h
      · obtain⟨x,_,rfl⟩:=Hk.1 h;simp[QI] at hq
      · obtain⟨j,it,x,h4,h5,rfl⟩:=nu.1 h
        have hj:=h2 (0+j) rfl
        rw[G5] at hj
        have hib:=tJ h4
        simp only[Ro,GH,Hq,HH] at hib
        rcases hib.1.2 x h5 q hq with hb|hb
        · have:=Hw hb
          subst this;exact hkun hj
        · exact hkun (dep_lst hb hj)
    have sv_same:∀q it,its[q]? =some it→uD g listed q→it.val.sv (O6 bs k v)=it.val.sv bs:=λq it hq hl=>by
      refine it.val.ok _ _ λz hz=>EV _ _ λe=>?_
      subst e
      have hib:=tJ hq
      simp only[Ro,GH,Hq,HH] at hib
      rcases hib.2 z hz with hb|hb
      · have:=Hw hb
        subst this;exact hkun hl
      · exact hkun (dep_lst hb hl)
    have outs_tab:∀x∈its[k].outs,(⟨x.1,some k,x.2⟩:uB)∈hP ini its:=λx hx=>JG _ (nu.2 ⟨k,_,x,hit,hx,by rw[G5]⟩)
    have out_notks:∀x∈its[k].outs,∀t∈ks,t.id≠x.1:=λx hx t ht e=>by
      have h1:=(hks t).1 ht
      have:=Gj hT1 h1.1 (outs_tab x hx) e
      subst this
      exact hkun (h1.2.1 k rfl)
    have hne:its[k].outs.map (·.1)|>.Nodup:=by
      have hs:(its[k].outs.map (λx=>(⟨x.1,some k,x.2⟩:uB))).Sublist (hP ini its):=by
        refine List.Sublist.trans ?_ (Iu _ _)
        have:∀(its:List qB) (j q:Nat) (it:qB),its[q]? =some it→(it.outs.map (λx=>(⟨x.1,some (j+q),x.2⟩:uB))).Sublist (OM its j):=by
          intro its
          induction its with
          |nil=>intro j q it h;simp at h
          | cons it0 r ih =>
            intro j q it h
            cases q with
            |zero=>simp at h;subst h;exact IQ _ _
            |succ q=>rw[show j+(q+1)=j+1+q by omega];exact(ih (j+1) q it (by simpa using h)).trans (Iu _ _)
        have:=this its 0 k _ hit
        rwa [G5] at this
      have:=hT1.sublist (hs.map (·.id))
      simpa[List.map_map,Function.comp_def] using this
    have tm:∀(t:Nat) u',a.tmps[t]? =some u'→(∀d,o.dst=some d→d≠t)→(a.put o.dst u).tmps[t]? =some u':=by
      intro t u' hu hne
      cases hd:o.dst with
      |none=>exact hu
      |some d=>simp only[Act.put];rw[Hs (hne d hd)];exact hu
    refine ih _ _ _ (by have:=np hun;omega) ⟨by simp[inv.size],λj q hj hlj e he=>?_,λj hj hjl=>?_,λj hj hlj=>?_,H,O6 bs k v,its[k].outs.map (λx=>⟨x.1,some k,x.2⟩)++ks.filter (λt=> !eG t.id its[k].used),Lk hg hgh,?_,?_,λt=>?_,?_,?_,λq j o' d' it hq hj hd' hiq hlj=>?_,λt s' hl hno=>?_⟩
    · by_cases hji:i=j
      · subst hji
        rw[ho'] at hj;cases hj
        exact Iz (hlist e he)
      · rw[Ji false hji] at hlj
        exact Iz (inv.closed j q hj hlj e he)
    · exact Iz (inv.dl j hj hjl)
    · by_cases hji:i=j
      · subst hji;exact .inr hig
      · rw[Ji false hji] at hlj;exact inv.ex j hj hlj
    · have e1:(ks.filter (λt=> !eG t.id its[k].used)).map (λt=>t.tk.res (O6 bs k v))=(ks.filter (λt=> !eG t.id its[k].used)).map (λt=>t.tk.res bs):=HE λt ht=>tk_same t (HX.1 ht).1
      rw[HT,e1,List.map_map,GW]
      refine hS'.perm ?_
      refine(JF _ ?_).trans (oj hLf _ _)
      refine(oj hLf _ _).trans (lfp ?_)
      rw[←GW,←HT]
      exact((hrp.map _).append_right L0).symm
    · rw[HT,List.map_map]
      refine Ik.2 ⟨by simpa[Function.comp_def] using hne,?_,λx hx y hy e=>?_⟩
      · exact hnd.sublist (Js.map _)
      · subst e
        simp only[Hk,Function.comp_def] at hx
        obtain⟨z,hz,rfl⟩:=hx
        obtain⟨t,ht,e⟩:=Hk.1 hy
        exact out_notks z hz t (HX.1 ht).1 e
    · rw[G3,HX,Hk]
      constructor
      · rintro(⟨x,hx,rfl⟩|⟨h1,h2⟩)
        · refine⟨outs_tab x hx,λq hq=>?_,λq it hq hi hl=>?_⟩
          · cases hq;exact(lst_set k).2 (.inr rfl)
          · -- a token is taken only behind what gives it
            have hib:=tJ hq
            simp only[Ro,GH,Hq] at hib
            have h5:=hib.1.1 _ hi
            rw[sG hT1 (outs_tab x hx)] at h5
            simp only at h5
            rcases(lst_set q).1 hl with h|rfl
            · exact hkun (dep_lst h5 h)
            · obtain⟨h6,h7⟩:=befS h5
              rw[hgk] at h7
              have:=jg (λj=>listed.getD j false=true) inv.closed ho' hlist _ h7
              rw[hunf] at this;cases this
        · obtain⟨h3,h4,h5⟩:=(hks t).1 h1
          refine⟨h3,λq hq=>(lst_set q).2 (.inl (h4 q hq)),λq it hq hi hl=>?_⟩
          rcases(lst_set q).1 hl with h|rfl
          · exact h5 q it hq hi h
          · rw[hit] at hq;cases hq
            rw[dp.2 hi] at h2;cases h2
      · rintro⟨h1,h2,h3⟩
        by_cases hp:t.prod=some k
        · left
          rcases G3.1 h1 with h|h
          · obtain⟨x,_,rfl⟩:=Hk.1 h;cases hp
          · obtain⟨j,it,x,h4,h5,rfl⟩:=nu.1 h
            simp only[G5,Option.some.injEq] at hp
            subst hp
            rw[hit] at h4;cases h4
            exact⟨x,h5,by rw[G5]⟩
        · refine .inr ⟨(hks t).2 ⟨h1,λq hq=>?_,λq it hq hi hl=>h3 q it hq hi ((lst_set q).2 (.inl hl))⟩,?_⟩
          · rcases(lst_set q).1 (h2 q hq) with h|rfl
            · exact h
            · exact absurd hq hp
          · cases hm:eG t.id its[k].used with
            |false=>rfl
            |true=>exact absurd ((lst_set k).2 (.inr rfl)) (h3 k _ hit (dp.1 hm))
    · cases o.dst<;>exact hdf
    · cases o.dst with
      |none=>exact hsz
      |some d=>simp[Act.put,hsz]
    · by_cases hji:i=j
      · subst hji
        rw[ho'] at hj;cases hj
        have:=uniq q hq
        subst this
        rw[hit] at hiq;cases hiq
        refine⟨u,?_,hok d' hd'⟩
        rw[hd']
        simp only[Act.put];rw[G8 (by rw[hsz];exact hn o (Hb hpk) d' hd')]
      · rw[Ji false hji] at hlj
        obtain⟨u',hu,ho3⟩:=hA q j o' d' it hq hj hd' hiq hlj
        rw[sv_same q it hiq ⟨j,hq,hlj⟩]
        exact⟨u',tm d' u' hu λd hd=>dne d q j o' d' hd hq hj hd' hji,Lo hgh ho3⟩
    · obtain⟨u',hu,ho3⟩:=hB' t s' hl (λj o' hj hlj hlisted=>hno j o' hj hlj (Iz hlisted))
      refine⟨u',tm t u' hu λd hd e=>?_,Lo hgh ho3⟩
      subst e
      exact hno i o hig ho' (by simp[hlt]) hd
theorem Kn {l:List Oper} (g:List Nat) (p:List (List Nat)) (its:List qB) (b:List (Nat×bx)) (Lf:List bx→List bx) (A:∀r T,(r::Lf T).Perm (Lf (r::T))) (hL:Lf (b.map (·.2)++L)=L0) (hB:uS l D g p=true) (hT:P6 l g b its=true) (hn:(pick l g).all (λo=>match o.dst with|some d=>Nat.blt d n|none=>true)=true) (h:∀F,F0≤F→∀bs,k9 P n (hP b its) Lf l.toArray F bs (λE'=>aC F n E' (Lf (OB (hP b its) (lX its) bs++L)) (m8 P Q l (g++D))) 0 its p (pick l g) E):aC F0 n E L0 (m8 P Q l D):=λF a w h0 hE hS y f hc m=>by subst hL;have key:=λbs=>Bo (h F h0 bs);have hG:=zP hB;(have c:∀q,¬uD g f q:=λq ⟨i,h1,h2⟩=>by have u:=Hb h1;exact absurd ((m.ex i (hG.lt i u)).1 h2) (hG.apart i u));have v:=hT;simp only[P6,GH] at v;have z:=jZ v.1.1;refine EW A hG (key λ_=>undef).1 hT (λo ho d hd=>?_) (λbs k o us it h1 h2 h3 R hR G T hg=>by have:=(key bs).2.2 k o us it h1 h2 h3 R hR G T hg;rwa [G5] at this) (λbs G a w hg B C=>(key bs).2.1 G a w hg B C) y f a w hc ⟨m.size,m.closed,λj hj H=>(m.ex j H).2 hj,λj hj hl=> .inl ((m.ex j hj).1 hl),F,λ_=>undef,b.map (λx=>⟨x.1,none,QI x.2⟩),LO F,?_,?_,λt=>?_,hE.defers,hE.size,λk i o d it hk hi _ _ hl=>absurd ⟨i,hk,hl⟩ (c k),λt s hl _=>hE.at_ t s hl⟩;have:=Hq.1 hn o ho;rw[hd] at this;simpa[H4] using this;(have e:(b.map (λx=>(⟨x.1,none,QI x.2⟩:uB))).map (λt=>t.tk.res (λ_=>undef))=b.map (·.2):=by rw[List.map_map];rfl);rw[e];exact hS;exact z.sublist ((IQ _ _).map _);constructor;intro ht;refine⟨JM _ ht,λq hq=>?_,λq it _ _=>c q⟩;obtain⟨x,_,rfl⟩:=Hk.1 ht;cases hq;rintro⟨h1,h2,_⟩;rcases G3.1 h1 with h|h;exact h;obtain⟨j,it,x,_,_,rfl⟩:=nu.1 h;exact absurd (h2 _ rfl) (c _)
theorem Tq.st {v:Sk} (s:SV) (X:List bx) (hX:z8 tab u bs=X) (hs:v.sv bs=s) (h:∀G T,F0≤G→aC G n (gW us E) (X++Lf T) (wpList P a (Exit.then (nv G n (Lf T) j bs ⟨v,u,os,[]⟩ (some d)) QF) [⟨some d,op,ty,pos,aft,g⟩])) (k:k9 P n tab Lf a F0 bs K (j+1) its p l ((d,s)::E)):k9 P n tab Lf a F0 bs K j (⟨v,u,os,[]⟩::its) (us::p) (⟨some d,op,ty,pos,aft,g⟩::l) E:=by subst hX;subst hs;exact⟨λR hR=>by simp only[kT,Hp] at hR;subst hR;exact h,k⟩
def Kw:=@Tq.st
theorem L7 (X:List bx) (hX:z8 tab u bs=X) (h:∀G T,F0≤G→aC G n (gW us E) (X++Lf T) (wpList P a (Exit.then (nv G n (Lf T) j bs ⟨v,u,os,[]⟩ none) QF) [⟨none,op,ty,pos,aft,g⟩])) (k:k9 P n tab Lf a F0 bs K (j+1) its p l E):k9 P n tab Lf a F0 bs K j (⟨v,u,os,[]⟩::its) (us::p) (⟨none,op,ty,pos,aft,g⟩::l) E:=by subst hX;exact⟨λR hR=>by simp only[kT,Hp] at hR;subst hR;exact h,k⟩
theorem Tq.v (h:∀G T,F0≤G→aC G n (gW us E) (Lf T) (wpList P a (Exit.then (nv G n (Lf T) j bs ⟨bG s,[],[],[]⟩ (some d)) QF) [⟨some d,op,ty,pos,aft,g⟩])) (k:k9 P n tab Lf a F0 bs K (j+1) its p l ((d,s)::E)):k9 P n tab Lf a F0 bs K j (⟨bG s,[],[],[]⟩::its) (us::p) (⟨some d,op,ty,pos,aft,g⟩::l) E:=⟨λR hR=>by simp only[kT,Hp] at hR;subst hR;exact h,k⟩
def Kf:=@Tq.v
theorem LI {v:Sk} (s:SV) (R:List bx) (hR:kT tab [i] bs=[R]) (hs:v.sv bs=s) (h:∀G T,F0≤G→aC G n (gW us E) (R++Lf T) (wpList P a (Exit.then (nv G n (R++Lf T) j bs ⟨v,[],[],[i]⟩ (some d)) QF) [⟨some d,op,ty,pos,aft,g⟩])) (k:k9 P n tab Lf a F0 bs K (j+1) its p l ((d,s)::E)):k9 P n tab Lf a F0 bs K j (⟨v,[],[],[i]⟩::its) (us::p) (⟨some d,op,ty,pos,aft,g⟩::l) E:=by subst hs;exact⟨λR' b=>by simp only[hR,Hp] at b;subst b;exact h,k⟩
theorem N7 {v:Sk} (s:SV) (R R2:List bx) (hR:kT tab [i,i2] bs=[R,R2]) (hs:v.sv bs=s) (h:∀G T,F0≤G→aC G n (gW us E) (R++Lf T) (wpList P a (Exit.then (nv G n (R++Lf T) j bs ⟨v,[],[],[i,i2]⟩ (some d)) QF) [⟨some d,op,ty,pos,aft,g⟩])) (h2:∀G T,F0≤G→aC G n (gW us E) (R2++Lf T) (wpList P a (Exit.then (nv G n (R2++Lf T) j bs ⟨v,[],[],[i,i2]⟩ (some d)) QF) [⟨some d,op,ty,pos,aft,g⟩])) (k:k9 P n tab Lf a F0 bs K (j+1) its p l ((d,s)::E)):k9 P n tab Lf a F0 bs K j (⟨v,[],[],[i,i2]⟩::its) (us::p) (⟨some d,op,ty,pos,aft,g⟩::l) E:=by subst hs;exact⟨λR' b=>by simp only[hR,Hc,List.not_mem_nil,or_false] at b;rcases b with rfl|rfl;exact h;exact h2,k⟩
theorem Tq.nil (h:K E):k9 P n tab Lf a F0 bs K j [] [] [] E:=h
def KE:=@Tq.nil
theorem J6 {it:qB} (v:Value) (hd:look E d=some (it.val.sv (O6 bs k v))) (hL:L'=it.outs.map (λx=>x.2.res (O6 bs k v))++L):aC F0 n E L' (wpList P b (Exit.then (nv F0 n L k bs it (some d)) Q') []):=by subst hL;exact λF a w h0 hE hS=>⟨F,v,h0,hE.at_ d _ hd,hS,hE.defers⟩
theorem LK {it:qB} (v:Value) (hL:L'=it.outs.map (λx=>x.2.res (O6 bs k v))++L):aC F0 n E L' (wpList P b (Exit.then (nv F0 n L k bs it none) Q') []):=by subst hL;exact λF a w h0 hE hS=>⟨F,v,h0,trivial,hS,hE.defers⟩
end
end Go.Sim
namespace Go.Sim
open Go
section
variable {P:Program} {ops:Array Oper} {Q:Exit→Act→World→Prop} {rest:List Oper} {F F0:Fz} {n:Nat} {E:List (Nat×SV)} {L:List bx} {C:World→Prop} {Qa:Act→Prop}
variable {d:Nat} {op:Op} {ty:TypeId} {pos:String} {aft:Array Edge} {s:SV} {X:Act→World→Prop}
theorem mv (h:ev E x=some s) (hd:Nat.blt d n=true) (k:aC F0 n ((d,s)::E) L (wpList P b Q a)):aC F0 n E L (wpList P b Q (⟨some d,.move x,ty,pos,aft,none⟩::a)):=KQ (dH.move h) hd k
theorem ag (h:ev E x=some s) (hd:Nat.blt d n=true) (k:aC F0 n ((d,s)::E) L (wpList P b Q a)):aC F0 n E L (wpList P b Q (⟨some d,.assign x,ty,pos,aft,none⟩::a)):=KQ (Nv h) hd k
theorem rJ (h:ev E x=some s) (hd:Nat.blt d n=true) (k:bS F n ((d,s)::E) (wpQuiet P b (Cl F L) Qa a)):bS F n E (wpQuiet P b (Cl F L) Qa (⟨some d,.move x,ty,pos,aft,none⟩::a)):=Nw (dH.move h) hd k
theorem SC (h:ev E x=some s) (hd:Nat.blt d n=true) (k:bS F n ((d,s)::E) (wpQuiet P b (Cl F L) Qa a)):bS F n E (wpQuiet P b (Cl F L) Qa (⟨some d,.assign x,ty,pos,aft,none⟩::a)):=Nw (Nv h) hd k
theorem bn {b:BinOp} {k:IntKind} {x y:Int} {X Y:Operand} {t u:TypeId} {v:Value} (hX:ev E X=some (.raw (.int k x))) (hY:ev E Y=some (.raw (.int k y))) (hv:zE b k x y=some v) (hd:Nat.blt d n=true) (kk:aC F0 n ((d,.raw v)::E) L (wpList P c Q a)):aC F0 n E L (wpList P c Q (⟨some d,.binOp b t X Y u,ty,pos,aft,none⟩::a)):=KQ (M3 hX hY hv) hd kk
theorem Pv {b:BinOp} {k:IntKind} {x y:Int} {X Y:Operand} {t u:TypeId} {v:Value} (hX:ev E X=some (.raw (.int k x))) (hY:ev E Y=some (.raw (.int k y))) (hv:zE b k x y=some v) (hd:Nat.blt d n=true) (kk:bS F n ((d,.raw v)::E) (wpQuiet P c (Cl F L) Qa a)):bS F n E (wpQuiet P c (Cl F L) Qa (⟨some d,.binOp b t X Y u,ty,pos,aft,none⟩::a)):=Nw (M3 hX hY hv) hd kk
theorem sr {x:Code} {id:Nat} {l:List Oper} (k:aC F0 n E L (wpList P l.toArray (Exit.then (x.wp P Q) Q) l)):aC F0 n E L ((Code.seq (Code.region id l.toArray false) x).wp P Q):=aC.seq (aC.region k)
theorem nt (k:aC F0 n E L K):aC F0 n E L (wpList P a (Exit.then K Q) []):=aC.nil (MC k)
theorem ns {x:Code} {id:Nat} {l:List Oper} (k:aC F0 n E L (wpList P l.toArray (Exit.then (x.wp P Q) Q) l)):aC F0 n E L (wpList P a (Exit.then ((Code.seq (Code.region id l.toArray false) x).wp P Q) Q) []):=nt (sr k)
theorem ct (k:aC F0 n E L K):aC F0 n E L (Code.skip.wp P (Exit.then K Q)):=L8 (MC k)
theorem rt (k:aC F0 n E L (Q .ret)):aC F0 n E L (Code.ret.wp P (Exit.then K Q)):=Mz (Nc k)
theorem RR (hc:c=true) (h:ev E x=some (.raw (.bool c))) (h1:ev E y=some s):dH P n E L ⟨some d,.pick x y z,ty,pos,aft,none⟩ s:=dH.pick h (λ_=>h1) (λe=>absurd (e.symm.trans hc) (by decide))
theorem RT (hc:c=false) (h:ev E x=some (.raw (.bool c))) (h1:ev E z=some s):dH P n E L ⟨some d,.pick x y z,ty,pos,aft,none⟩ s:=dH.pick h (λe=>absurd (e.symm.trans hc) (by decide)) (λ_=>h1)
theorem ed (h:some a=some b):SV.raw (.bool a)=SV.raw (.bool b):=congrArg (λb=>SV.raw (.bool b)) (Option.some.inj h)
theorem a8 (h:some a=some b):a=b:=Option.some.inj h
end
theorem s1 (h0:look E k0=some u0):∀t v,look [(k0,u0)] t=some v→look E t=some v:=cF h0 (l7 E)
theorem s2 (h0:look E k0=some u0) (h1:look E k1=some u1):∀t v,look [(k0,u0),(k1,u1)] t=some v→look E t=some v:=cF h0 (cF h1 (l7 E))
theorem s3 (h0:look E k0=some u0) (h1:look E k1=some u1) (h2:look E k2=some u2):∀t v,look [(k0,u0),(k1,u1),(k2,u2)] t=some v→look E t=some v:=cF h0 (cF h1 (cF h2 (l7 E)))
theorem s4 (h0:look E k0=some u0) (h1:look E k1=some u1) (h2:look E k2=some u2) (h3:look E k3=some u3):∀t v,look [(k0,u0),(k1,u1),(k2,u2),(k3,u3)] t=some v→look E t=some v:=cF h0 (cF h1 (cF h2 (cF h3 (l7 E))))
theorem s5 (h0:look E k0=some u0) (h1:look E k1=some u1) (h2:look E k2=some u2) (h3:look E k3=some u3) (h4:look E k4=some u4):∀t v,look [(k0,u0),(k1,u1),(k2,u2),(k3,u3),(k4,u4)] t=some v→look E t=some v:=cF h0 (cF h1 (cF h2 (cF h3 (cF h4 (l7 E)))))
theorem s6 (h0:look E k0=some u0) (h1:look E k1=some u1) (h2:look E k2=some u2) (h3:look E k3=some u3) (h4:look E k4=some u4) (h5:look E k5=some u5):∀t v,look [(k0,u0),(k1,u1),(k2,u2),(k3,u3),(k4,u4),(k5,u5)] t=some v→look E t=some v:=cF h0 (cF h1 (cF h2 (cF h3 (cF h4 (cF h5 (l7 E))))))
theorem s7 (h0:look E k0=some u0) (h1:look E k1=some u1) (h2:look E k2=some u2) (h3:look E k3=some u3) (h4:look E k4=some u4) (h5:look E k5=some u5) (h6:look E k6=some u6):∀t v,look [(k0,u0),(k1,u1),(k2,u2),(k3,u3),(k4,u4),(k5,u5),(k6,u6)] t=some v→look E t=some v:=cF h0 (cF h1 (cF h2 (cF h3 (cF h4 (cF h5 (cF h6 (l7 E)))))))
theorem s8 (h0:look E k0=some u0) (h1:look E k1=some u1) (h2:look E k2=some u2) (h3:look E k3=some u3) (h4:look E k4=some u4) (h5:look E k5=some u5) (h6:look E k6=some u6) (h7:look E k7=some u7):∀t v,look [(k0,u0),(k1,u1),(k2,u2),(k3,u3),(k4,u4),(k5,u5),(k6,u6),(k7,u7)] t=some v→look E t=some v:=cF h0 (cF h1 (cF h2 (cF h3 (cF h4 (cF h5 (cF h6 (cF h7 (l7 E))))))))
abbrev sq:=@aC.seq
abbrev rg:=@aC.region
abbrev nl:=@aC.nil
abbrev tn:=@MC
abbrev te:=@NT
abbrev tr:=@Nc
abbrev rc:=@Mz
abbrev bk:=@aC.block
abbrev bh:=@NU
abbrev bN:=@MD
abbrev bm:=@NV
abbrev xt:=@aC.exit
abbrev cs:=@L8
abbrev dr:=@Mt
abbrev gc:=@NI
abbrev gq:=@N9
abbrev sk:=@NJ
abbrev xD:=@Oa
abbrev oq:=@Nw
abbrev ov:=@KQ
abbrev Rr:=@N4
abbrev rf:=@Nq
abbrev TX:=@N8
abbrev c8:=@NH
abbrev dw:=@Nm
abbrev PX:=@bS.nil
end Go.Sim
namespace Go.Sim
open Go
def dm {α β:Type} [BEq α] (x:α) (ps:List (α×β)) (z:β):β:=(gL x ps).getD z
def ZV {α:Type} (P:Program) (T:TypeId) (K:Kd α) (z:α):Prop:=∃v,(P.info? T).bind (·.zero)=some v∧∀F,K.val F v z
section
variable {P:Program} {ops:Array Oper} {Q:Exit→Act→World→Prop} {rest:List Oper} {F0:Fz} {n:Nat} {E:List (Nat×SV)} {L:List bx}
variable {d:Nat} {op:Op} {ty:TypeId} {pos:String} {aft:Array Edge} {s:SV}
theorem tu [BEq α] {K:Kd α} {V:Kd β} (hk:zJ P kt K) (hT:P.underlying T=some (.map kt et)) (hz:ZV P et V z) {es:Array MapEntry} (hr:tB K V F es.toList ps) (hx:K.val F key x):∃v,V.val F v (dm x ps z)∧∀w (m:Option Nat),(match m with|none=>es=#[]|some r=>∃c,w.heap[r]? =some (.map es c))→(Instr.lookup T (.map m) key false).run P w= .ok v w∧(Instr.lookup T (.map m) key true).run P w= .ok (.tuple #[v,.bool (gL x ps).isSome]) w:=by obtain⟨zv,hz1,hz2⟩:=hz;rcases hfa:gI x ps 0 with _|j;refine⟨zv,?_,λw m hm=>?_⟩;rcases fH hk hx (i:=0) hr (w:=default) with⟨a1,a2,a3⟩|⟨j,e,a1,_⟩;simp only[dm,a2,IT];exact hz2 F;rw[hfa] at a1;cases a1;rcases fH hk hx (i:=0) hr (w:=w) with⟨a1,a2,a3⟩|⟨j,e,a1,_⟩;have hf:=hk.find a3;have hc:=hk.chk (b:=es.isEmpty) hx (w:=w);have hzv:=kR hz1 w;(cases m with|none=>simp only at hm;subst hm;simp at hf hc;simp[Instr.lookup,GO hT,hc,hf,hzv,a2]|some r=>obtain⟨c,hb⟩:=hm;simp[Instr.lookup,GO hT,Ht (P:=P) hb,hc,hf,hzv,a2]);rw[hfa] at a1;cases a1;rcases fH hk hx (i:=0) hr (w:=default) with⟨a1,_⟩|⟨j',e,a1,a2,a3,⟨y,a4,a5⟩,_⟩;rw[hfa] at a1;cases a1;refine⟨e.val,by simp only[dm,a4,Hi];exact a5,λw m hm=>?_⟩;rcases fH hk hx (i:=0) hr (w:=w) with⟨b1,_⟩|⟨j2,e2,b1,b2,b3,_⟩;rw[hfa] at b1;cases b1;rw[a1] at b1;(have:j'=j2:=by simpa using b1);subst this;rw[a2] at b2;cases b2;have hf:=hk.find b3;have hc:=hk.chk (b:=es.isEmpty) hx (w:=w);cases m with|none=>simp only at hm;subst hm;simp at a2|some r=>obtain⟨c,hb⟩:=hm;simp[Instr.lookup,GO hT,Ht (P:=P) hb,hc,hf,a4]
theorem M7 {α:Type} [BEq α] {K:Kd α} {q:IntKind} {T kt et:TypeId} {b:Nat} {ps:List (α×Int)} {M X:Operand} {x:α} {z:Int} {s1:SV} (hk:zJ P kt K) (hT:P.underlying T=some (.map kt et)) (hz:ZV P et (aR q) z) (hM:ev E M=some (.raw (.map (some b)))) (hX:ev E X=some s1) (h1:dK s1 K x):dH P n E (.mp K (aR q) b ps::L) ⟨some d,.lookup T M X false,ty,pos,aft,none⟩ (.raw (.int q (dm x ps z))):=Mc λF a hE w G hg hS=>by obtain⟨h,⟨es,clock,⟨hrd,hst⟩,rfl⟩,hon⟩:=hS.head;have hb:w.heap[b]? =some (.map es clock):=hon b _ (J8 _ _);obtain⟨v,hv,hr⟩:=tu hk hT hz hrd (h1 G _ ((hE.mono hg).eval hX));obtain rfl:=oe.1 hv;simp only[execOp,hE.raw hM,(hr w (some b) ⟨clock,hb⟩).1,GK,GE,GR]
theorem NP {T : TypeId} {X I : Operand} {x : List Int} {c : Int} {q : IntKind} {i : Int} {s1 : SV} (hx : idx x i = some c) (hT : P.underlying T = some .string) (hX : ev E X = some s1) (h1 : dK s1 ml x) (hI : ev E I = some (.raw (.int q i))) : dH P n E L ⟨some d, .index T X I, ty, pos, aft, none⟩ (.raw (.int .u8 c)) := KJ λF a hE w => by obtain ⟨st, hv, rfl⟩ := ql (h1 F _ (hE.eval hX));obtain ⟨h0, h2, h3⟩ := iA hx;(have hl : i.toNat < st.size := by (have : i < (st.data.toList.length : Int) := by simpa using h2);(have e : st.size = st.data.toList.length := by rw [HL]; rfl);omega);have hi : 0 ≤ i ∧ i < st.size := ⟨h0, by omega⟩;(have hc : c = ((st[i.toNat]'hl).toNat : Int) := by (have h4 : (st.data.toList.map λb => (b.toNat : Int))[i.toNat]? = some ((st[i.toNat]'hl).toNat : Int) := by simp only [It, HJ];(have : st.data[i.toNat]? = some (st[i.toNat]'hl) := by rw [HD (show i.toNat < st.data.size from hl)]; rfl);rw [this]; rfl);rw [h3] at h4; exact Option.some.inj h4);simp only [execOp, hv, hE.raw hI, GK, Go.run_index_string w T st q i hT, hi, and_self, dif_pos, GE, GR];rw [hc]
theorem Nz {K:Kd α} {xs:List α} {l h:Int} (hs:sub xs l h=some ys) (hT:P.underlying T=some (.array m e)) (hz:(P.info? e).map (·.size)=some K.n) (hX:ev E X=some (.ptr (bC m K) xs)) (hA:QH E A 0=some l) (hB:QH E B m=some h):dH P n E L ⟨some d,.slice T X A B none,ty,pos,aft,none⟩ (.val (bE K) ys):=KN λF a hE=>by obtain⟨h0,h1,h2,rfl⟩:=pV hs;have:=hE.eval hX;simp only[SV.ok] at this;obtain⟨p,he,hp⟩:=this;obtain⟨c,e',fr,f,hb,j,hm,hrd⟩:=hp.out;have g:∀w,_:=λw=>ri (P:=P) hE (isS:=false) (len:=m) (cap:=m) hA hB h0 h1 (by omega) w;(have hl:((xs.take h.toNat).drop l.toNat).length=h.toNat - l.toNat:=by simp;omega);refine⟨.slice (some (if m=l.toNat then p else p.add (l.toNat*K.n))) (h.toNat - l.toNat) (m - l.toNat),?_,λw=>?_⟩;simp only[SV.ok];refine⟨[_],⟨_,m - l.toNat,by rw[hl],by rw[hl];omega,?_⟩,rfl⟩;by_cases hc:m=l.toNat;exact .inl (by rw[hl];omega);refine .inr ⟨p.add (l.toNat*K.n),c,e',fr,by simp[hc],?_,?_,?_,?_⟩;obtain⟨b,o,sp⟩:=p;simp only at f;subst f;rw[Hh];obtain⟨b,o,sp⟩:=p;simp only at f;subst f;rw[Hh];exact hb;obtain⟨b,o,sp⟩:=p;simp only at f;subst f;rw[Hh,hl];(have:l.toNat*K.n+(h.toNat - l.toNat)*K.n≤xs.length*K.n:=by rw[←Ij];exact GI _ (by omega));have h9:(bC m K).n=m*K.n:=rfl;rw[hm] at this;simp only[h9] at j⊢;omega;obtain⟨b,o,sp⟩:=p;simp only at f;subst f;rw[Hh,hl];have h9:(bC m K).n=m*K.n:=rfl;have i:cr K F ((c.toList.drop o).take (m*K.n)) xs:=hrd;have h3:=(i.take h.toNat).drop l.toNat;simp only at h3⊢;rw[IG,Hy (GI _ (by omega)),JA,HN] at h3;rw[Nat.sub_mul];exact h3;simp only[execOp,Instr.sliceAt,GO hT,he,Instr.sureAddr,g w,ea hz,GK,GE,GR,Option.map_none]
end
end Go.Sim
namespace Go.Sim
open Go
theorem At.sub {K0:Kd β} {K:Kd α} {xs:List α} (p:At K0 x o (bC m K) xs up) (h:l+k≤m):
  At K0 x (o+l*K.n) (bC k K) ((xs.drop l).take k) (λys=>up (xs.take l++ys++xs.drop (l+k))) where
 get:=λ{F cs} hx=>by
  obtain⟨a,hl,b⟩:=p.get hx
  have h1:(l+k)*K.n≤m*K.n:=GI _ h
  rw[Ij] at h1
  have a':o+m*K.n≤cs.length:=a
  have d:(bC k K).n=k*K.n:=rfl
  refine⟨by rw[d];omega,by simp;omega,?_⟩
  have h2:=(b.drop l).take k
  rw[show(bC m K).n=m*K.n from rfl,fG (by omega)] at h2
  rw[d];exact h2
 set:=λ{F cs c ys} hx hy=>by
  obtain⟨a,hl,b⟩:=p.get hx
  obtain⟨g,f⟩:=hy
  have h1:(l+k)*K.n≤m*K.n:=GI _ h
  rw[Ij] at h1
  have e:cr K F ((((cs.drop o).take (bC m K).n).take (l*K.n))++c++(((cs.drop o).take (bC m K).n).drop (l*K.n+k*K.n))) (xs.take l++ys++xs.drop (l+k)):=by
   have h3:=b.take l
   have h4:=b.drop (l+k)
   rw[Ij] at h4
   exact(h3.append f).append h4
  have:=p.set hx (c:=_) (z:=xs.take l++ys++xs.drop (l+k)) ⟨by simp;omega,e⟩
  refine cast (congrArg (λl=>K0.rd F l _) ?_) this
  exact rB (u:=l*K.n) (q:=k*K.n) (m:=m*K.n) h1
def wM:Value→Int| .int _ x=>x|_=>0
def Rh {α β:Type} [BEq α] (K:Kd α) (V:Kd β) (b:Nat) (ps:List (α×β)) (x:α) (st:Int):bx:= .any λh=>∃es a,(∀F,tB K V F es.toList ps)∧pB es a∧(∃(j:Nat) (e:MapEntry),es[j]? =some e∧(e.born:Int)=st∧gI x ps 0=some j)∧h=bM.one b (.map es a)
theorem Bq {α β:Type} {K:Kd α} {V:Kd β} (hK:cN K) (hV:cN V) {F G:Fz}:∀{es:List MapEntry} {ps:List (α×β)},tB K V F es ps→tB K V G es ps|[],[],h=>h|e::es,p::ps,⟨⟨c1,a1,b1⟩,⟨c2,a2,b2⟩,c⟩=>⟨⟨c1,hK _ _ _ _ a1,b1⟩,⟨c2,hV _ _ _ _ a2,b2⟩,Bq hK hV c⟩|[],_::_,h=>h.elim|_::_,[],h=>h.elim
theorem CR:∀{es:List MapEntry} {ps:List (α×β)},tB K V F es ps→es.length=ps.length|[],[],_=>rfl|_::es,_::ps,⟨_,_,c⟩=>by simp[CR c]|[],_::_,h=>h.elim|_::_,[],h=>h.elim
section
variable {α β:Type} [BEq α] [LawfulBEq α]
theorem ro:∀{ps:List (α×β)},gL x (cH x u ps)=some u|[]=>by simp[cH,gL]|p::ps=>by cases h:(x==p.1) with|true=>simp[cH,gL,h]|false=>simp[cH,gL,h,ro (ps:=ps)]
theorem rp {x:α} {u z:β} {ps:List (α×β)}:dm x (cH x u ps) z=u:=by simp[dm,ro]
theorem tv:∀{ps:List (α×β)} {i:Nat},gI x (cH x u ps) i=match gI x ps i with|some j=>some j|none=>some (i+ps.length)
 |[],i=>by simp[cH,gI]
 |p::ps,i=>by
  cases h:(x==p.1) with
  |true=>simp[cH,gI,h]
  |false=>
   simp only[cH,gI,h,Gx,tv (ps:=ps),GT]
   cases gI x ps (i+1) with
   |some j=>rfl
   |none=>simp;omega
theorem CS {V:Kd β} (h2:V.val F val v):∀{es:List MapEntry} {ps:List (α×β)} {i j:Nat},tB K V F es ps→gI x ps i=some (i+j)→tB K V F (es.modify j λe=>{e with val:=val}) (cH x v ps)|e::es,p::ps,i,j,⟨a,b,c⟩,h=>(by cases d:(x==p.1) with|true=>simp only[gI,d,Gy,Option.some.injEq] at h;(have:j=0:=by omega);subst this;have hx:x=p.1:=J4 d;simp only[cH,d,Gy,List.modify_zero_cons];exact⟨by rw[hx];exact a,h2,c⟩|false=>simp only[gI,d,Gx] at h;have:=uR h;cases j with|zero=>omega|succ j=>simp only[cH,d,Gx,JE];exact⟨a,b,CS h2 c (by rw[h];congr 1;omega)⟩)|[],[],_,_,_,h=>by simp[gI] at h|[],_::_,_,_,h,_=>h.elim|_::_,[],_,_,h,_=>h.elim
end
section
variable {P:Program} {ops:Array Oper} {Q:Exit→Act→World→Prop} {rest:List Oper} {F0:Fz} {n:Nat} {E:List (Nat×SV)} {L:List bx}
variable {d:Nat} {op:Op} {ty:TypeId} {pos:String} {aft:Array Edge} {s:SV}
variable {α β:Type} [BEq α] [LawfulBEq α]
theorem N0 (hg:decide (0<k∧lo+k≤hi∧hi≤m)=true) (hT:P.underlying T=some (.array k e)) (hX:ev E X=some (.raw (.slice (some (if m=lo then⟨b,off,none⟩ else⟨b,off+lo*sz,none⟩)) (hi - lo) (m - lo)))):dH P n E L ⟨some d,.sliceToArrayPointer T X,ty,pos,aft,none⟩ (.raw (.pointer (some ⟨b,off+lo*sz,none⟩))):=KJ λF a hE w=>by obtain⟨h0,h1,h2⟩:=GF hg;(have c:m≠lo:=by omega);(have f:¬hi - lo<k:=by omega);simp[execOp,Instr.arrayAt,GO hT,hE.raw hX,c,f]
theorem St.mapTurn {w:World} {r r':bx} (hs:St F w (r::L)) (hr:∀h,r.holds F h→∃e c,h=bM.one b (.map e c)) (hb:w.heap[b]? =some (.map es clock)) (hr':r'.holds F (bM.one b (.map es' clock'))):St F {w with heap:=w.heap.setIfInBounds b (.map es' clock')} (r'::L):=by refine hs.turn λh hh hon=>?_;obtain⟨es0,clock0,rfl⟩:=hr h hh;have hlt:=fQ hb;refine⟨bM.one b (.map es' clock'),hr',⟨rfl,rfl,rfl,λq _ hq=>?_⟩,λq hq=> .inl ?_,λq o ho=>?_⟩;(have hne:b≠q:=λe=>by subst e;rw[J8] at hq;cases hq);exact Hs hne;by_cases hqb:q=b;subst hqb;rw[J8];simp;exact absurd (KM _ hqb) hq;obtain⟨rfl,rfl⟩:=KI ho;exact G8 hlt
theorem MZ {K:Kd α} {V:Kd β} {T kt et:TypeId} {b:Nat} {ps:List (α×β)} {M X:Operand} {x:α} {z:β} {s1:SV} (fK:cN K) (fV:cN V) (hk:zJ P kt K) (hT:P.underlying T=some (.map kt et)) (hz:ZV P et V z)
  (hM:ev E M=some (.raw (.map (some b)))) (hX:ev E X=some s1) (h1:dK s1 K x) (hd:Nat.blt d n=true)
  (k:∀st:Int,aC F0 n ((d,.tup [.val V (dm x ps z),.raw (.int .i64 st)])::E) (Rh K V b (cH x (dm x ps z) ps) x st::L) (wpList P ops Q rest)):
  aC F0 n E (.mp K V b ps::L) (wpList P ops Q (⟨some d,.mapEntry T M X,ty,pos,aft,none⟩::rest)):=Kq rfl λF a w h0 hE hS=>by
 obtain⟨h,⟨es,clock,⟨hrd,hst⟩,rfl⟩,hon⟩:=hS.head
 have hb:w.heap[b]? =some (.map es clock):=hon b _ (J8 _ _)
 have v1:=h1 F _ (hE.eval hX)
 have hc:=hk.chk (b:=false) (w:=w) v1
 obtain⟨zv,hz1,hz2⟩:=hz
 have key:∃es' clock' v st,(Instr.mapEntry T (.map (some b)) (a.eval X)).run P w= .ok (.tuple #[v,goInt (st:Nat)]) {w with heap:=w.heap.setIfInBounds b (.map es' clock')}∧V.val F v (dm x ps z)∧
    tB K V F es'.toList (cH x (dm x ps z) ps)∧pB es' clock'∧∃(j:Nat) (e:MapEntry),es'[j]? =some e∧e.born=st∧gI x (cH x (dm x ps z) ps) 0=some j:=by
  rcases fH hk v1 (w:=w) (i:=0) hrd with⟨a1,a2,a3⟩|⟨j,e,a1,a2,a3,⟨y,a4,a5⟩,q,a6,a7⟩
  · have hzv:=kR hz1 w
    have hg:dm x ps z=z:=by simp[dm,a2]
    rw[hg]
    refine⟨es.push {key:=a.eval X,val:=zv,born:=clock},clock+1,zv,clock,?_,hz2 F,?_,wy hst,es.size,{key:=a.eval X,val:=zv,born:=clock},by simp,rfl,?_⟩
    · simp only[Instr.mapEntry,GK,GO hT,GE,Ht (P:=P) hb,hc,hk.find a3,hzv,HV (P:=P) _ hb,GR]
    · rw[ti a1,Jx];exact wz v1 (hz2 F) hrd
    · rw[tv,a1];simp;have:=CR hrd;simp at this;omega
  · have hj:es[j]? =some e:=by simpa using a2
    have hsame:Instr.sameBits 10000 e.key (a.eval X)=true:=hk.same a6 v1 a7
    simp only[G5] at a3 a1
    have hg:dm x ps z=y:=by simp[dm,a4]
    have a1':gI x ps 0=some (0+j):=by rw[a1];simp
    have hrd2:tB K V F (es.modify j λe=>{e with key:=a.eval X}).toList (cH x y ps):=by
      have h3:=zF (key:=a.eval X) (val:=e.val) (v:=y) v1 a5 hrd a1'
      rw[Jn]
      have:(es.toList.modify j λe'=>{e' with key:=a.eval X,val:=e.val})=es.toList.modify j λe=>{e with key:=a.eval X}:=by
       refine IN λi=>?_
       rw[List.getElem?_modify,List.getElem?_modify]
       by_cases hij:j=i
       · subst hij
         simp[hj]
       · simp[hij]
      rw[←this];exact h3
    have hjl:j<es.size:=(H6.1 hj).1
    rw[hg]
    refine⟨es.modify j λe=>{e with key:=a.eval X},clock,e.val,e.born,?_,a5,hrd2,oh hst λ_=>rfl,j,{e with key:=a.eval X},?_,rfl,?_⟩
    · simp only[Instr.mapEntry,GK,GO hT,GE,Ht (P:=P) hb,hc,hk.find a3,Instr.keyThatStays,hj,IB,Hi,hsame,JJ,GR,HV (P:=P) _ hb]
    · rw[IK];simp[hj]
    · rw[tv,a1]
 obtain⟨es',clock',v,st,hrun,hv,hrd',hst',j,e,hj,hje,hpos⟩:=key
 have hS':St F {w with heap:=w.heap.setIfInBounds b (.map es' clock')} (Rh K V b (cH x (dm x ps z) ps) x st::L):=
  hS.mapTurn (λh hh=>by obtain⟨es,clock,_,rfl⟩:=hh;exact⟨_,_,rfl⟩) hb ⟨es',clock',λG=>Bq fK fV hrd',hst',⟨j,e,hj,by rw[hje],hpos⟩,rfl⟩
 unfold Oper.wp
 simp only[execOp,hE.raw hM,hrun,GK,GE,GR,Oper.upon]
 exact k st F _ _ h0 (hE.put hd (by simp only[SV.ok];exact⟨[v,.int .i64 st],rfl,by simp only[SV.oks,SV.ok,Je];exact hv⟩)) hS'
theorem M0 {K:Kd α} {V:Kd β} {T:TypeId} {b:Nat} {ps:List (α×β)} {M S Y:Operand} {x:α} {y:β} {st:Int} {q:IntKind} {s2:SV} (hM:ev E M=some (.raw (.map (some b)))) (hSt:ev E S=some (.raw (.int q st))) (hY:ev E Y=some s2) (h2:dK s2 V y) (k:aC F0 n E (.mp K V b (cH x y ps)::L) (wpList P ops Q rest)):aC F0 n E (Rh K V b ps x st::L) (wpList P ops Q (⟨none,.entryStore T M S Y,ty,pos,aft,none⟩::rest)):=Kq rfl λF a w h0 hE hS=>by obtain⟨h,⟨es,clock,hrd,hst,⟨j,e,hj,hje,hpos⟩,rfl⟩,hon⟩:=hS.head;have hb:w.heap[b]? =some (.map es clock):=hon b _ (J8 _ _);have v2:=h2 F _ (hE.eval hY);have hjl:j<es.size:=(H6.1 hj).1;(have hfi:es.findIdx? (λe=>(e.born:Int)==st)=some j:=by rw[Array.findIdx?_eq_some_iff_getElem];refine⟨hjl,?_,λi hi=>?_⟩;(have:es[j]=e:=by have:=(H6.1 hj).2;exact this);rw[this,hje];simp;have he:es[j]=e:=(H6.1 hj).2;(have hne:es[i].born≠es[j].born:=λh=>by have hnd:=hst.2;(have h1:(es.toList.map (·.born))[i]? =some es[i].born:=by rw[It,HJ,HD (by omega)];rfl);(have h2:(es.toList.map (·.born))[j]? =some es[j].born:=by rw[It,HJ,HD hjl];rfl);have:=(List.getElem?_inj (by simp;omega) hnd).1 (h1.trans (by rw[h];exact h2.symm));omega);simp only[Bool.not_eq_true,Jo];intro h;apply hne;rw[he];(have:(es[i].born:Int)=(e.born:Int):=by rw[h,hje]);exact_mod_cast this);(have hrun:(Instr.entryStore T (.map (some b)) (.int q st) (a.eval Y)).run P w= .ok () {w with heap:=w.heap.setIfInBounds b (.map (es.modify j λe=>{e with val:=a.eval Y}) clock)}:=by simp only[Instr.entryStore,GK,Ht (P:=P) hb,GE,asInt,asIntOf,GR,hfi,HV (P:=P) _ hb]);have hS':St F {w with heap:=w.heap.setIfInBounds b (.map (es.modify j λe=>{e with val:=a.eval Y}) clock)} (.mp K V b (cH x y ps)::L):=hS.mapTurn (λh hh=>by obtain⟨es,clock,_,_,_,rfl⟩:=hh;exact⟨_,_,rfl⟩) hb ⟨es.modify j λe=>{e with val:=a.eval Y},clock,⟨by rw[Jn];exact CS v2 (i:=0) (j:=j) (hrd F) (by rw[hpos];simp),oh hst λ_=>rfl⟩,rfl⟩;unfold Oper.wp;simp only[execOp,hE.raw hM,hE.raw hSt,hrun,GK,GE,GR,Oper.upon];exact k F _ _ h0 hE hS'
end
section
variable {P:Program} {ops:Array Oper} {Q:Exit→Act→World→Prop} {rest:List Oper} {F0:Fz} {n:Nat} {E:List (Nat×SV)} {L:List bx}
variable {d:Nat} {op:Op} {ty:TypeId} {pos:String} {aft:Array Edge} {s:SV}
variable {α β:Type} [BEq α]
theorem NA {K:Kd α} {q:IntKind} {T kt et:TypeId} {b:Nat} {ps:List (α×Int)} {M X:Operand} {x y:α} {z u:Int} {st:Int} {s1:SV} (hu:dm x ps z=u) (hk:zJ P kt K) (hT:P.underlying T=some (.map kt et)) (hz:ZV P et (aR q) z) (hM:ev E M=some (.raw (.map (some b)))) (hX:ev E X=some s1) (h1:dK s1 K x):dH P n E (Rh K (aR q) b ps y st::L) ⟨some d,.lookup T M X false,ty,pos,aft,none⟩ (.raw (.int q u)):=Mc λF a hE w G hg hS=>by obtain⟨h,⟨es,clock,hrd,hst,_,rfl⟩,hon⟩:=hS.head;have hb:w.heap[b]? =some (.map es clock):=hon b _ (J8 _ _);obtain⟨v,hv,hr⟩:=tu hk hT hz (hrd G) (h1 G _ ((hE.mono hg).eval hX));obtain rfl:=oe.1 hv;simp only[execOp,hE.raw hM,(hr w (some b) ⟨clock,hb⟩).1,GK,GE,GR,hu]
end
end Go.Sim
namespace Go.Sim
open Go
theorem Mw [Fu] {S R:Type} {step:S→Option (md S R)} (st:Nat→S) (res:Nat→R) (n:Nat) (hd:∀i,i<n→(step (st i)=some (.next (st (i+1)))∧res i=res (i+1))∨step (st i)=some (.done (res i))) (hn:step (st n)=some (.done (res n))):∀k i,n - i=k→i≤n→Loop.run step (st i)=some (res i)|0,i,hk,hi=>by(have:i=n:=by omega);subst this;exact Km hn|k+1,i,hk,hi=>by rcases hd i (by omega) with⟨h1,h2⟩|h1;rw[Kx h1,h2];exact Mw st res n hd hn k (i+1) (by omega) (by omega);exact Km h1
theorem KW [Fu] {S R:Type} {step:S→Option (md S R)} (st:Nat→S) (res:Nat→R) (n:Nat) (hd:∀i,i<n→(step (st i)=some (.next (st (i+1)))∧res i=res (i+1))∨step (st i)=some (.done (res i))) (hn:step (st n)=some (.done (res n))) {s0:S} (h0:s0=st 0):Loop.run step s0=some (res 0):=by subst h0;exact Mw st res n hd hn _ 0 rfl (by omega)
theorem fB {xs:List α} (h:i<xs.length):idx xs (i:Int)=some xs[i]:=by unfold idx;(have h1:(0:Int)≤(i:Int):=by omega);(have h2:(i:Int)<(xs.length:Int):=by omega);simp[h1,h2,h]
theorem wrap64 (h: -9223372036854775808≤x∧x≤9223372036854775807):IntKind.i64.wrap x=x:=IntWalk.i64_in _ (by omega)
theorem cf {xs ys:List α} (h:xs.length+ys.length≤dC):app xs ys=some (xs++ys):=by unfold app;simp[h]
def q8:List Int→List Int→Bool|x::xs,y::ys=>if x=y then q8 xs ys else decide (x<y)|_,_=>false
theorem lu:∀x,q8 x x=false|[]=>rfl|a::x=>by simp[q8,lu x]
theorem mc:∀{x y z:List Int},q8 x y=true→q8 y z=true→q8 x z=true|[],_,_,h,_=>by simp[q8] at h|_::_,[],_,h,_=>by simp[q8] at h|_::_,_::_,[],_,h=>by simp[q8] at h|a::x,b::y,c::z,h1,h2=>by simp only[q8] at h1 h2⊢;by_cases d:a=b;subst d;rw[Hv rfl] at h1;by_cases e:a=c;subst e;rw[Hv rfl] at h2⊢;exact mc h1 h2;rw[Hu e] at h2⊢;exact h2;rw[Hu d] at h1;by_cases f:b=c;subst f;rw[Hu d];exact h1;rw[Hu f] at h2;have h1:=GF h1;have h2:=GF h2;rw[Hu (by omega)];exact Gz (by omega)
theorem qn:∀{x y:List Int},x.length=y.length→x≠y→q8 x y=true∨q8 y x=true|[],[],_,h=>absurd rfl h|a::x,b::y,hl,h=>by simp only[q8];by_cases c:a=b;subst c;simp only[JJ];exact qn (by simpa using hl) (λe=>h (by rw[e]));rw[Hu c,Hu (λe=>c e.symm)];simp only[GM];omega|[],_::_,hl,_=>by simp at hl|_::_,[],hl,_=>by simp at hl
def bW (x:List Int):Prop:=∀b∈x,0≤b∧b≤255
theorem zT:∀{x y:List Int},bW x→bW y→x.length=y.length→(yC x y<0↔q8 x y=true)|[],[],_,_,_=>by simp[yC,Lib.bytesOf,Lib.compareBytes,q8]|a::x,b::y,hx,hy,hl=>by have ih:=zT (x:=x) (y:=y) (λc hc=>hx c (by simp[hc])) (λc hc=>hy c (by simp[hc])) (by simpa using hl);have ha:=hx a (by simp);have hb:=hy b (by simp);(have key:∀p q:Int,0≤p→p≤255→0≤q→q≤255→(UInt8.ofNat p.toNat<UInt8.ofNat q.toNat↔p<q):=by intro p q h1 h2 h3 h4;rw[UInt8.lt_iff_toNat_lt,UInt8.toNat_ofNat',UInt8.toNat_ofNat',Jj (by omega),Jj (by omega)];omega);have k1:=key a b ha.1 ha.2 hb.1 hb.2;have k2:=key b a hb.1 hb.2 ha.1 ha.2;simp only[yC,Lib.bytesOf,G6,Lib.compareBytes,q8] at ih⊢;by_cases h1:a<b;rw[Hv (k1.2 h1),Hu (by omega)];simp[h1];rw[Hu (λh=>h1 (k1.1 h))];by_cases h2:b<a;rw[Hv (k2.2 h2),Hu (by omega)];simp;omega;rw[Hu (λh=>h2 (k2.1 h)),Hv (by omega)];exact ih|[],_::_,_,_,hl=>by simp at hl|_::_,[],_,_,hl=>by simp at hl
def j_ {α:Type} [BEq α] (ks:List α) (x:α):List α:=if ks.elem x then ks else ks++[x]
section
variable {α β:Type} [BEq α] [LawfulBEq α]
theorem wY {ks:List α} {x y:α}:y∈j_ ks x↔y∈ks∨y=x:=by unfold j_;split;rename_i h;(have hx:x∈ks:=by simpa using h);exact⟨.inl,λh=>h.elim id λe=>e▸hx⟩;simp
theorem Cg {ks:List α} (h:ks.Nodup):(j_ ks x).Nodup:=by unfold j_;split;exact h;rename_i hx;(have hx:x∉ks:=by simpa using hx);rw[Ik];exact⟨h,by simp,λa ha b hb=>by simp at hb;subst hb;exact λe=>hx (e▸ha)⟩
theorem yp {l ks:List α} {y:α}:y∈l.foldl j_ ks↔y∈ks∨y∈l:=by induction l generalizing ks with|nil=>simp|cons x l ih=>rw[HI,ih,wY,Hc];exact or_assoc
theorem ur {l ks:List α} (h:ks.Nodup):(l.foldl j_ ks).Nodup:=by induction l generalizing ks with|nil=>exact h|cons x l ih=>exact ih (Cg h)
end
theorem yq [BEq α] {l ks:List α}:(l.foldl j_ ks).length≤ks.length+l.length:=by induction l generalizing ks with|nil=>simp|cons x l ih=>have:=ih (ks:=j_ ks x);(have h2:(j_ ks x).length≤ks.length+1:=by unfold j_;split<;>simp);simp only[HI,GT];omega
section
variable {α β:Type} [BEq α] [LawfulBEq α]
theorem Ch {l ks:List α} (h:(l.foldl j_ ks).length=ks.length+l.length):l.Nodup∧∀x∈l,x∉ks:=by induction l generalizing ks with|nil=>simp|cons x l ih=>simp only[HI,GT] at h;have h1:=yq (l:=l) (ks:=j_ ks x);by_cases hx:x∈ks;(have:(j_ ks x).length=ks.length:=by simp[j_,hx]);omega;(have h2:j_ ks x=ks++[x]:=by simp[j_,hx]);(have h3:(j_ ks x).length=ks.length+1:=by rw[h2];simp);obtain⟨h4,h5⟩:=ih (ks:=j_ ks x) (by omega);refine⟨Ib.2 ⟨λhm=>h5 x hm (wY.2 (.inr rfl)),h4⟩,λy hy=>?_⟩;rcases Hc.1 hy with rfl|hy;exact hx;exact λhk=>h5 y hy (wY.2 (.inl hk))
theorem tx:∀{ps:List (α×β)},(cH x v ps).map (·.1)=j_ (ps.map (·.1)) x|[]=>by simp[cH,j_]|p::ps=>by have ih:=tx (x:=x) (v:=v) (ps:=ps);by_cases h:x=p.1;subst h;simp[cH,j_];(have a:(x==p.1)=false:=by simpa using h);simp only[cH,a,Gx,G6,ih,j_];by_cases hm:x∈ps.map (·.1);(have h2:(p.1::ps.map (·.1)).elem x=true:=by simpa using Or.inr (by simpa using hm));(have h3:(ps.map (·.1)).elem x=true:=by simpa using hm);rw[Hv h3,Hv h2];(have h2:¬(p.1::ps.map (·.1)).elem x=true:=by rw[List.elem_iff];intro h4;rcases Hc.1 h4 with h5|h5;exact h h5;exact hm h5);(have h3:¬(ps.map (·.1)).elem x=true:=by rw[List.elem_iff];exact hm);rw[Hu h3,Hu h2];rfl
end
end Go.Sim
