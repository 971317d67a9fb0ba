import Derived.Test.YtkjlhdndbdenaaaGreatDoorLawAes3
set_option autoImplicit true
set_option relaxedAutoImplicit true
set_option linter.all false
set_option maxRecDepth 20000
set_option maxHeartbeats 2000000
namespace Go.Proofs.YtkjlhdndbdenaaaGreatDoor
open Go Go.Sim
variable [Fu]
theorem iE {α:Type} {xs ys:List α} {i:Nat} {d:α} (h:i<xs.length):(xs++ys).getD i d=xs.getD i d:=by simp[xR,h]
theorem sQ {α:Type} {xs ys:List α} {u d:α} {i:Nat} (h:i=xs.length):(xs++u::ys).getD i d=u:=by subst h;simp
theorem jV {α:Type} {xs ys:List α} {u v:α} {i:Nat} (h:i=xs.length):List.set (xs++u::ys) i v=xs++v::ys:=by subst h;simp
theorem oy {ws:List (List Int)} (h:∀w∈ws,w.length=4):ws.flatten.length=4*ws.length:=by induction ws with|nil=>rfl|cons w ws a=>rw[yu,wi,a λx a=>h x (by simp[a]),h w (by simp)];simp;omega
theorem kp:∀{ws:List (List Int)} {k j:Nat},(∀w∈ws,w.length=4)→k<ws.length→j<4→ws.flatten.getD (4*k+j) 0=(ws.getD k []).getD j 0|[],k,j,_,a,_=>by simp at a|w::ws,0,j,h,_,b=>by have:=h w (by simp);rw[yu,iE (by omega)];simp|w::ws,k+1,j,h,a,b=>by have c:=h w (by simp);have c:=kp (ws:=ws) (k:=k) (j:=j) (λx d=>h x (by simp[d])) (by simpa using a) b;(have e:(w++ws.flatten).getD (4*(k+1)+j) 0=ws.flatten.getD (4*k+j) 0:=by (have a:¬4*(k+1)+j<w.length:=by omega);(have b:4*(k+1)+j - w.length=4*k+j:=by omega);simp[xR,a,b]);rw[yu,e,c];simp
def x3:Nat→Int|0=>1|k+1=>tw (x3 k)
theorem oz:∀k,0≤x3 k∧x3 k≤255|0=>by decide|k+1=>sI (oz k)
def gK (p:List Int) (n:Nat):List Int:=bif n%4==0 then[bC .u8 (box (p.getD 1 0)) (x3 ((n - 1) / 4)),box (p.getD 2 0),box (p.getD 3 0),box (p.getD 0 0)] else p
def nw (ws:List (List Int)) (n:Nat):List Int:=(List.range 4).map λj=>bC .u8 ((ws.getD (n - 4) []).getD j 0) ((gK (ws.getD (n - 1) []) n).getD j 0)
def w0 (a:List Int) (i:Nat):List Int:=(List.range 4).map λj=>a.getD (4*i+j) 0
def wJ (a:List Int):Nat→List (List Int)|0=>(List.range 4).map (w0 a)|m+1=>wJ a m++[nw (wJ a m) (m+4)]
theorem jW (a:List Int):∀m,(wJ a m).length=m+4|0=>by simp[wJ]|m+1=>by unfold wJ;rw[wi,jW];simp
theorem lF {a:List Int} (b:aT a):∀m,∀w∈wJ a m,w.length=4∧aT w|0,w,h=>by unfold wJ at h;obtain⟨i,_,rfl⟩:=xj.1 h;exact⟨by simp[w0],jt λj=>fe b _⟩|m+1,w,h=>by unfold wJ at h;rcases w6.1 h with h|h;exact lF b m w h;have:=xO.1 h;subst this;exact⟨by simp[nw],jt λj=>jF _ _⟩
theorem qY {a:List Int} (b:aT a) {m k:Nat} (c:k<m+4):((wJ a m).getD k []).length=4∧aT ((wJ a m).getD k []):=by
 have h:k<(wJ a m).length:=by rw[jW];exact c
 have e:(wJ a m).getD k []=(wJ a m)[k]:=by simp[h]
 rw[e];exact lF b m _ (xQ h)
theorem jX {n m:Nat}:(((n:Nat):Int)==((m:Nat):Int))=(n==m):=by rw[wY];simp only[yb];omega
def z4:List Int:=List.replicate 4 (0:Int)
def mJ (F:List Int) (r i:Nat):List Int:=(List.range 16).map λj=>bif decide (16*r+j<4*i) then F.getD (16*r+j) 0 else 0
def rJ (a:List Int):List Int:=(wJ a 40).flatten
theorem rN {a:List Int} (hl:a.length=16) (ha:aT a):gf a=some ⟨(List.range 11).map λr=>(List.range 16).map λj=>(rJ a).getD (16*r+j) 0⟩:=by
 unfold gf
 obtain⟨W,hW⟩:∃W,W=wJ a:=⟨_,rfl⟩
 have M:W 0=(List.range 4).map (w0 a):=by rw[hW];rfl
 have N:∀m,W (m+1)=W m++[nw (W m) (m+4)]:=by rw[hW];intro m;rfl
 have b:∀m,(W m).length=m+4:=by rw[hW];exact jW a
 have c:∀{m k:Nat},k<m+4→((W m).getD k []).length=4∧aT ((W m).getD k []):=by rw[hW];exact λh=>qY ha h
 -- the key O
 rw[aQ (λi=>((i:Int),co 44 (w0 a) (λ_=>List.replicate 4 (0:Int)) i)) 0 4 (r:=W 0++List.replicate 40 z4) (by omega) ?_ ?_ (by rfl)]
 rotate_left
 · intro i _ hi
   have h1:decide ((i:Int)<4)=true:=by simp;omega
   simp only[h1,wd]
   rw[fK (i:=i) [] rfl (by rw[dj];omega)]
   simp only[aC]
   rw[bA (x:=4*(i:Int)) (by omega),fM (l:=4*(i:Int)) (h:=16) (i:=4*i) (j:=16) (by omega) rfl (by omega) (by omega)]
   simp only[aC]
   have g:decide ((Int.toNat 0)≤(Int.toNat 4)∧(Int.toNat 4)≤4)=true:=by decide
   rw[g,wd,wl]
   have e1:(co 44 (w0 a) (λ_=>List.replicate 4 (0:Int)) i).getD i []=List.replicate 4 0:=by
     simp[co,show i<44 by omega]
   rw[e1]
   have e2:over (List.replicate 4 (0:Int)) (Int.toNat 0) (Int.toNat 4) ((a.take 16).drop (4*i))=w0 a i:=by
     rw[show Int.toNat 0=0 from rfl,show Int.toNat 4=4 from rfl,iQ (by omega) (by simp)]
     have G:((a.take 16).drop (4*i)).length=16 - 4*i:=by simp[hl]
     have e3:(List.replicate 4 (0:Int)).drop (0+min ((a.take 16).drop (4*i)).length (4 - 0))=[]:=by
       rw[G];apply yp;simp;omega
     rw[e3]
     apply gn
     · simp[w0,hl];omega
     · intro j hj
       have P:j<4:=by simp at hj;omega
       have:4*i+j<16:=by omega
       simp[w0,P,this,w8,wT]
   rw[e2,ck (f:=w0 a) (by omega) rfl,bA (by omega)];rfl
 · have h2:decide (((4:Nat):Int)<4)=false:=by decide
   simp only[h2,wc]
   rw[M];rfl
 simp only[aC]
 -- the Z aa
 rw[aQ (λn=>(x3 ((n - 1) / 4),(n:Int),W (n - 4)++List.replicate (44 - n) z4)) 4 44 (r:=W 40) (by omega) ?_ ?_ (by rfl)]
 rotate_left
 · intro n ac hn
   have h1:decide ((n:Int)<44)=true:=by simp;omega
   simp only[h1,wd]
   obtain⟨m,rfl⟩:∃m,n=m+4:=⟨n - 4,by omega⟩
   simp only[yf]
   have o:=b m
   rw[bA (x:=((m+4:Nat):Int) - 1) (by omega),bA (x:=((m+4:Nat):Int) - 4) (by omega),bA (x:=((m+4:Nat):Int)+1) (by omega)]
   rw[fK (i:=m+3) [] (by omega) (by rw[wi];omega),iE (by omega)]
   simp only[aC]
   obtain⟨p1,p2⟩:=c (m:=m) (k:=m+3) (by omega)
   obtain⟨q1,q2⟩:=c (m:=m) (k:=m) (by omega)
   have Q:nw (W m) (m+4)=(List.range 4).map λj=>bC .u8 (((W m).getD m []).getD j 0) ((gK ((W m).getD (m+3) []) (m+4)).getD j 0):=rfl
   have R:=N m
   generalize (W m).getD (m+3) []=p at*
   have e1:(bif (Int.tmod ((m+4:Nat):Int) 4)==0 then
         (idx p 1).bind λq=>
         (bU q).bind λs=>
         (idx p 2).bind λu=>
         (bU u).bind λv=>
         (idx p 3).bind λy=>
         (bU y).bind λA=>
         (idx p 0).bind λB=>
         (bU B).bind λC=>
         (da 2 (x3 ((m+4 - 1) / 4))).bind λD=>
         some (D,[bC .u8 s (x3 ((m+4 - 1) / 4)),v,A,C])
       else
         some (x3 ((m+4 - 1) / 4),p)
         :Option (Int×(List Int)))=some (x3 ((m+5 - 1) / 4),gK p (m+4)):=by
     have ec:((Int.tmod ((m+4:Nat):Int) 4)==0)=((m+4)%4==0):=jX (n:=(m+4)%4) (m:=0)
     rw[ec]
     unfold gK
     cases hc:((m+4)%4==0) with
     | true =>
       have S:=yb.1 hc
       simp only[wd]
       rw[aI (z:=1) (i:=1) rfl (by omega),aI (z:=2) (i:=2) rfl (by omega),aI (z:=3) (i:=3) rfl (by omega),aI (z:=0) (i:=0) rfl (by omega)]
       simp only[aC]
       have fs:∀i,bU (p.getD i 0)=some (box (p.getD i 0)):=λi=>ko (fe p2 i)
       rw[fs,fs,fs,fs,kn,CL (oz _)]
       simp only[aC]
       have:(m+5 - 1) / 4=(m+4 - 1) / 4+1:=by omega
       rw[this];rfl
     | false =>
       have S:¬(m+4)%4=0:=by simpa using hc
       have:(m+5 - 1) / 4=(m+4 - 1) / 4:=by omega
       rw[this];rfl
   rw[e1]
   simp only[aC]
   have tl:(gK p (m+4)).length=4:=by
     unfold gK;cases (m+4)%4==0
     · exact p1
     · rfl
   generalize gK p (m+4)=t at*
   have H:List.replicate (44 - (m+4)) z4=co 4 (λj=>bC .u8 (((W m).getD m []).getD j 0) (t.getD j 0)) (λ_=>0) 0::List.replicate (43 - (m+4)) z4:=by
     have:44 - (m+4)=(43 - (m+4))+1:=by omega
     rw[this,xa];rfl
   rw[H]
   rw[aQ (λj=>((j:Int),W m++co 4 (λj=>bC .u8 (((W m).getD m []).getD j 0) (t.getD j 0)) (λ_=>0) j::List.replicate (43 - (m+4)) z4)) 0 4 (r:=W (m+1)++List.replicate (43 - (m+4)) z4) (by omega) ?_ ?_ (by rfl)]
   · simp only[aC]
     have:44 - (m+4+1)=43 - (m+4):=by omega
     have h3:m+4+1 - 4=m+1:=by omega
     rw[this,h3];rfl
   · intro j _ hj
     have h2:decide ((j:Int)<4)=true:=by simp;omega
     simp only[h2,wd]
     rw[fK (z:=((m+4:Nat):Int) - 4) (i:=m) [] (by omega) (by rw[wi];omega),iE (by omega)]
     simp only[aC]
     rw[aI (i:=j) rfl (by omega),aI (i:=j) rfl (by omega)]
     simp only[aC]
     rw[fK (z:=((m+4:Nat):Int)) (i:=m+4) [] rfl (by rw[wi,o];simp),sQ o.symm]
     simp only[aC]
     rw[cN rfl hj]
     simp only[aC,wl]
     rw[bA (by omega),jV o.symm,ck (f:=λj=>bC .u8 (((W m).getD m []).getD j 0) (t.getD j 0)) hj rfl];rfl
   · have h2:decide (((4:Nat):Int)<4)=false:=by decide
     simp only[h2,wc]
     rw[ef,R,Q,wM];rfl
 · have h2:decide (((44:Nat):Int)<44)=false:=by decide
   simp only[h2,wc]
   simp
 simp only[aC]
 -- laid in ab
 have hF:rJ a=(W 40).flatten:=by rw[hW];rfl
 have T:∀w∈W 40,w.length=4:=by rw[hW];exact λw h=>(lF ha 40 w h).1
 have U:∀k j,k<44→j<4→((W 40).flatten).getD (4*k+j) 0=((W 40).getD k []).getD j 0:=λk j h1 h2=>kp T (by rw[b];exact h1) h2
 rw[hF]
 generalize (W 40).flatten=F at*
 rw[aQ (λi=>((i:Int),(⟨(List.range 11).map λr=>mJ F r i⟩:aN))) 0 44 (r:=⟨(List.range 11).map λr=>(List.range 16).map λj=>F.getD (16*r+j) 0⟩) (by omega) ?_ ?_ (by rfl)]
 · rfl
 · intro i _ hi
   have h1:decide ((i:Int)<44)=true:=by simp;omega
   simp only[h1,wd]
   have ad:=b 40
   rw[fK (i:=i) [] rfl (by omega)]
   simp only[aC]
   have d4:Int.tdiv (i:Int) 4=((i / 4:Nat):Int):=rfl
   have m4:Int.tmod (i:Int) 4=((i%4:Nat):Int):=rfl
   rw[d4,m4,bA (x:=((i / 4:Nat):Int)) (by omega),bA (x:=((i%4:Nat):Int)*4) (by omega),bA (by omega)]
   have hr:i / 4<11:=by omega
   rw[fK (i:=i / 4) [] rfl (by simp;omega)]
   simp only[aC]
   have t4:Int.toNat (((i%4:Nat):Int)*4)=i%4*4:=by omega
   have g1:decide ((0:Int)≤((i%4:Nat):Int)*4∧((i%4:Nat):Int)*4≤16∧(16:Int)≤16)=true:=wg (by omega)
   have g2:decide (Int.toNat (((i%4:Nat):Int)*4)≤Int.toNat 16∧Int.toNat 16≤16)=true:=wg (by omega)
   rw[g1,g2,wd,wd,t4,wl]
   have er:((List.range 11).map λr=>mJ F r i).getD (i / 4) []=mJ F (i / 4) i:=by simp[hr]
   rw[er]
   have ew:=(c (m:=40) (k:=i) (by omega)).1
   have V:=λj h=>U i j hi h
   generalize (W 40).getD i []=w at*
   have X:Int.toNat 16=16:=rfl
   have I:over (mJ F (i / 4) i) (i%4*4) 16 w=mJ F (i / 4) (i+1):=by
     have lr:∀i r,(mJ F r i).length=16:=λi r=>by simp[mJ]
     apply gn
     · rw[iK (by omega) (by rw[lr];omega),lr,lr]
     · intro j hj
       rw[iK (by omega) (by rw[lr];omega),lr] at hj
       have K:∀i,(mJ F (i / 4) i).getD j 0=bif decide (16*(i / 4)+j<4*i) then F.getD (16*(i / 4)+j) 0 else 0:=λi=>by simp[mJ,hj]
       have E:(mJ F (i / 4) (i+1)).getD j 0=bif decide (16*(i / 4)+j<4*(i+1)) then F.getD (16*(i / 4)+j) 0 else 0:=by simp[mJ,hj]
       rw[E]
       have Y:(over (mJ F (i / 4) i) (i%4*4) 16 w).getD j 0=bif decide (i%4*4≤j∧j<i%4*4+4) then w.getD (j - i%4*4) 0 else(mJ F (i / 4) i).getD j 0:=by
         unfold over
         rw[w9,xR,xR]
         simp only[wi,wx,lr,ew]
         have m1:min (i%4*4) 16=i%4*4:=by omega
         have m2:min (16 - i%4*4) 4=4:=by omega
         have m3:min 4 (16 - i%4*4)=4:=by omega
         rw[m1,m2,m3]
         by_cases j1:j<i%4*4
         · have d:decide (i%4*4≤j∧j<i%4*4+4)=false:=wk (by omega)
           rw[xN (by omega),xN j1,d];simp[w8,j1]
         · by_cases j2:j<i%4*4+4
           · have d:decide (i%4*4≤j∧j<i%4*4+4)=true:=wg (by omega)
             have j4:j - i%4*4<16 - i%4*4:=by omega
             rw[xN j2,xv j1,d];simp[w8,j4]
           · have d:decide (i%4*4≤j∧j<i%4*4+4)=false:=wk (by omega)
             have:i%4*4+4+(j - (i%4*4+4))=j:=by omega
             rw[xv j2,d];simp[wT,this]
       rw[Y,K]
       by_cases h:i%4*4≤j∧j<i%4*4+4
       · have d:decide (i%4*4≤j∧j<i%4*4+4)=true:=wg h
         have d2:decide (16*(i / 4)+j<4*(i+1))=true:=wg (by omega)
         have e5:4*i+(j - i%4*4)=16*(i / 4)+j:=by omega
         rw[d,d2,wd,wd,←V (j - i%4*4) (by omega),e5]
       · have d:decide (i%4*4≤j∧j<i%4*4+4)=false:=wk h
         have d2:decide (16*(i / 4)+j<4*i)=decide (16*(i / 4)+j<4*(i+1)):=by rw[wY];simp only[wz];omega
         rw[d,d2,wc]
   rw[X,I]
   have L:List.set ((List.range 11).map λr=>mJ F r i) (i / 4) (mJ F (i / 4) (i+1))=(List.range 11).map λr=>mJ F r (i+1):=by
     apply yd
     · simp
     · intro k k1 k2
       have hk:k<11:=by simpa using k2
       simp only[zd,List.getElem_map,List.getElem_range]
       by_cases e:i / 4=k
       · rw[xN e,e]
       · rw[xv e]
         unfold mJ
         apply xm
         intro j hj
         have hj:=xy.1 hj
         have d2:decide (16*k+j<4*i)=decide (16*k+j<4*(i+1)):=by rw[wY];simp only[wz];omega
         rw[d2]
   rw[L];rfl
 · have h2:decide (((44:Nat):Int)<44)=false:=by decide
   simp only[h2,wc]
   rfl
theorem sR {a:List Int} (b:a.length=16) (b:aT a):dY a=some (rJ a):=by
 unfold dY
 obtain⟨W,c⟩:∃W,W=wJ a:=⟨_,rfl⟩
 have s:W 0=(List.range 4).map (w0 a):=by rw[c];rfl
 have u:∀m,W (m+1)=W m++[nw (W m) (m+4)]:=by rw[c];intro m;rfl
 have d:∀m,(W m).length=m+4:=by rw[c];exact jW a
 have e:∀m,∀w∈W m,w.length=4:=by rw[c];exact λm w h=>(lF b m w h).1
 have v:∀{m k:Nat},k<m+4→((W m).getD k []).length=4∧aT ((W m).getD k []):=by rw[c];exact λh=>qY b h
 have b:rJ a=(W 40).flatten:=by rw[c];rfl
 rw[b]
 rw[aQ (λi=>((i:Int),co 176 (λj=>a.getD j 0) (λ_=>0) i)) 0 16 (r:=(W 0).flatten++List.replicate 160 0) (by omega) ?_ ?_ (by rfl)]
 rotate_left
 · intro i _ b
   have b:decide ((i:Int)<16)=true:=by simp;omega
   simp only[b,wd]
   rw[aI (xs:=a) (i:=i) rfl (by omega)]
   simp only[aC]
   rw[cN (k:=i) rfl (by omega)]
   simp only[aC]
   rw[bA (by omega),wl,ck (f:=λj=>a.getD j 0) (by omega) rfl];rfl
 · have f:decide (((16:Nat):Int)<16)=false:=by decide
   simp only[f,wc]
   rw[s];rfl
 simp only[aC]
 rw[aQ (λn=>(x3 ((n - 1) / 4),((4*n:Nat):Int),(W (n - 4)).flatten++List.replicate (176 - 4*n) 0)) 4 44 (r:=(W 40).flatten) (by omega) ?_ ?_ (by rfl)]
 · rfl
 · intro n G c
   have b:decide (((4*n:Nat):Int)<176)=true:=by simp;omega
   simp only[b,wd]
   obtain⟨m,rfl⟩:∃m,n=m+4:=⟨n - 4,by omega⟩
   simp only[yf]
   have y:=d m
   have A:=oy (e m)
   have l:∀k j,k<m+4→j<4→((W m).flatten).getD (4*k+j) 0=((W m).getD k []).getD j 0:=λk j b f=>kp (e m) (by rw[d];exact b) f
   have B:nw (W m) (m+4)=(List.range 4).map λj=>bC .u8 (((W m).getD m []).getD j 0) ((gK ((W m).getD (m+3) []) (m+4)).getD j 0):=rfl
   have C:(W (m+1)).flatten=(W m).flatten++nw (W m) (m+4):=by rw[u];simp
   obtain⟨p1,c⟩:=v (m:=m) (k:=m+3) (by omega)
   have f3:∀j,j<4→((W m).flatten).getD (4*(m+3)+j) 0=((W m).getD (m+3) []).getD j 0:=λj h=>l (m+3) j (by omega) h
   have f0:∀j,j<4→((W m).flatten).getD (4*m+j) 0=((W m).getD m []).getD j 0:=λj h=>l m j (by omega) h
   generalize (W m).getD (m+3) []=p at*
   generalize (W m).getD m []=q at*
   rw[y] at A
   generalize (W m).flatten=F at*
   have b:∀(z:Int) (j:Nat),z=((4*(m+3)+j:Nat):Int)→j<4→idx (F++List.replicate (176 - 4*(m+4)) 0) (IntKind.wrap .i64 z)=some (p.getD j 0):=by
    intro z j d e
    rw[bA (by omega),aI d (by rw[wi];omega),iE (by omega),f3 j e]
   rw[b (((4*(m+4):Nat):Int) - 4) 0 (by omega) (by omega),b (((4*(m+4):Nat):Int) - 3) 1 (by omega) (by omega),b (((4*(m+4):Nat):Int) - 2) 2 (by omega) (by omega),b (((4*(m+4):Nat):Int) - 1) 3 (by omega) (by omega)]
   simp only[aC]
   have b:∀i,idx fo (p.getD i 0)=some (box (p.getD i 0)):=λi=>qU (fe c i)
   rw[b,b,b,b,mF]
   simp only[aC]
   have b:(gK p (m+4)).length=4:=by
    unfold gK;cases (m+4)%4==0
    · exact p1
    · rfl
   have b:(bif (Int.tmod ((4*(m+4):Nat):Int) 16)==0 then
       some (tw (x3 ((m+4 - 1) / 4)),bC .u8 (box (p.getD 1 0)) (x3 ((m+4 - 1) / 4)),box (p.getD 2 0),box (p.getD 3 0),box (p.getD 0 0))
      else
       some (x3 ((m+4 - 1) / 4),p.getD 0 0,p.getD 1 0,p.getD 2 0,p.getD 3 0)
       :Option (Int×Int×Int×Int×Int))=some (x3 ((m+5 - 1) / 4),(gK p (m+4)).getD 0 0,(gK p (m+4)).getD 1 0,(gK p (m+4)).getD 2 0,(gK p (m+4)).getD 3 0):=by
    have c:((Int.tmod ((4*(m+4):Nat):Int) 16)==0)=((m+4)%4==0):=by
      refine(jX (n:=4*(m+4)%16) (m:=0)).trans ?_
      rw[wY];simp only[yb];omega
    rw[c]
    unfold gK
    cases c:((m+4)%4==0) with
    | true =>
      have D:=yb.1 c
      have:(m+5 - 1) / 4=(m+4 - 1) / 4+1:=by omega
      rw[this];rfl
    | false =>
      have D:¬(m+4)%4=0:=by simpa using c
      have:(m+5 - 1) / 4=(m+4 - 1) / 4:=by omega
      rw[this];rfl
   rw[b]
   simp only[aC]
   generalize gK p (m+4)=t at*
   have o:List.replicate (176 - 4*(m+4)) (0:Int)=0::0::0::0::List.replicate (172 - 4*(m+4)) 0:=by
    have:176 - 4*(m+4)=(172 - 4*(m+4))+1+1+1+1:=by omega
    rw[this,xa,xa,xa,xa]
   rw[o]
   generalize b:List.replicate (172 - 4*(m+4)) (0:Int)=R at*
   rw[bA (x:=((4*(m+4):Nat):Int) - 16) (by omega),bA (x:=((4*(m+4):Nat):Int) - 15) (by omega),bA (x:=((4*(m+4):Nat):Int) - 14) (by omega),bA (x:=((4*(m+4):Nat):Int) - 13) (by omega),bA (x:=((4*(m+4):Nat):Int)+1) (by omega),bA (x:=((4*(m+4):Nat):Int)+2) (by omega),bA (x:=((4*(m+4):Nat):Int)+3) (by omega),bA (x:=((4*(m+4):Nat):Int)+4) (by omega)]
   have c:Int.toNat ((4*(m+4):Nat):Int)=4*(m+4):=by omega
   have h:Int.toNat (((4*(m+4):Nat):Int)+1)=4*(m+4)+1:=by omega
   have i:Int.toNat (((4*(m+4):Nat):Int)+2)=4*(m+4)+2:=by omega
   have k:Int.toNat (((4*(m+4):Nat):Int)+3)=4*(m+4)+3:=by omega
   rw[c,h,i,k]
   have E:4*(m+4)=F.length:=by omega
   have c:∀(z:Int) (j:Nat) (T:List Int),z=((4*m+j:Nat):Int)→j<4→idx (F++T) z=some (q.getD j 0):=by
    intro z j T d e
    rw[aI d (by rw[wi];omega),iE (by omega),f0 j e]
   rw[c (((4*(m+4):Nat):Int) - 16) 0 _ (by omega) (by omega)]
   simp only[aC]
   rw[aI (z:=((4*(m+4):Nat):Int)) (i:=4*(m+4)) rfl (by simp;omega),jV E]
   simp only[aC]
   rw[c (((4*(m+4):Nat):Int) - 15) 1 _ (by omega) (by omega)]
   simp only[aC]
   rw[aI (z:=((4*(m+4):Nat):Int)+1) (i:=4*(m+4)+1) (by omega) (by simp;omega)]
   simp only[aC]
   have s1:∀d e h T,List.set (F++d::h::T) (4*(m+4)+1) e=F++d::e::T:=by
    intro d e h T
    have:F++d::h::T=(F++[d])++h::T:=by simp
    rw[this,jV (by simp;omega)];simp
   have s2:∀d e h i T,List.set (F++d::e::i::T) (4*(m+4)+2) h=F++d::e::h::T:=by
    intro d e h i T
    have:F++d::e::i::T=(F++[d,e])++i::T:=by simp
    rw[this,jV (by simp;omega)];simp
   have s3:∀d e h i j T,List.set (F++d::e::h::j::T) (4*(m+4)+3) i=F++d::e::h::i::T:=by
    intro d e h i j T
    have:F++d::e::h::j::T=(F++[d,e,h])++j::T:=by simp
    rw[this,jV (by simp;omega)];simp
   rw[s1,c (((4*(m+4):Nat):Int) - 14) 2 _ (by omega) (by omega)]
   simp only[aC]
   rw[aI (z:=((4*(m+4):Nat):Int)+2) (i:=4*(m+4)+2) (by omega) (by simp;omega)]
   simp only[aC]
   rw[s2,c (((4*(m+4):Nat):Int) - 13) 3 _ (by omega) (by omega)]
   simp only[aC]
   rw[aI (z:=((4*(m+4):Nat):Int)+3) (i:=4*(m+4)+3) (by omega) (by simp;omega)]
   simp only[aC]
   rw[s3]
   have c:m+4+1 - 4=m+1:=by omega
   have d:176 - 4*(m+4+1)=172 - 4*(m+4):=by omega
   have e:((4*(m+4):Nat):Int)+4=((4*(m+4+1):Nat):Int):=by omega
   rw[c,d,b,C,B,e,wM];rfl
 · have f:decide (((4*44:Nat):Int)<176)=false:=by decide
   simp only[f,wc]
   simp
def tJ (a:List Int) (r j:Nat):Int:=(rJ a).getD (16*r+j) 0
theorem ve (a:List Int):qV ⟨(List.range 11).map λr=>(List.range 16).map λj=>(rJ a).getD (16*r+j) 0⟩ (tJ a) where
 n:=by simp
 l:=λr b=>by simp[b]
 v:=λr j b c=>by simp[b,c,tJ]
theorem vP {a:List Int} (b:aT a):sM (rJ a) (tJ a) where
 n:=by unfold rJ;rw[oy (λw h=>(lF b 40 w h).1),jW]
 v:=λr j b b=>rfl
end Go.Proofs.YtkjlhdndbdenaaaGreatDoor
