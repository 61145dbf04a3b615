/-
  Operations, further: fields, indexes, lengths, append, maps, functions.
-/
import Derived.Test.YtgfgckimecpmlaaGreatDoorFa
import Derived.Laws.StructEq
set_option linter.unusedSimpArgs false
set_option linter.unusedVariables false
namespace Fw
open Go
section
variable {P:Program}{a:Act}{o:Oper}{g:G}{w:World}{ρ:a_→V}{H:ah}{ns:Nat}
theorem yw{t:TypeId}{n:Nat}{b:Bool}{cs:Array Value}{us:List V}{v:V}{off:Nat}(hn:gf P t=some n)(hb:mj P t=some b)(hl:off+n≤us.length)(hv:aP g w us cs.toList)(hm:oW b ((us.drop off).take n)=some v)(h1:b=true∨n=1):∃x,(part t cs off).run P w=.ok x w∧RV g w v x:=by
 have dI:=(hv.drop off).take n;obtain⟨k1,k2⟩:=AI hm dI;have hlen:=hv.length;simp at hlen;cases b with
  |true=>refine⟨_,?_,k1⟩;simp only[part,Sem.run_bind,rU hb,Result.andThen_ok,aa4,cW hn,Sem.run_pure,Sem.run_map];congr 2;apply acS;simp only[acR,acx];rw[show off+n - off=n by omega]
  |false=>
   have Ud:n=1:=by simpa using h1
   subst Ud;have:off<cs.size:=by omega
   refine⟨cs[off],?_,?_⟩
   ·simp[part,rU hb,Array.getElem?_eq_getElem this]
   ·have e:(cs.toList.drop off).take 1=[cs[off]]:=by rw[aa6 (by simpa using this)];simp
    rw[e]at k1;simpa using k1
theorem Py{t:TypeId}{x:Operand}{x':a_}{f n:Nat}{b:Bool}{fs:Array Field}{fd:Field}{cs:List V}{v:V}(ho:o.op=.field t x f)(ht:P.underlying t=some (.struct fs))(hf:fs[f]? =some fd)(hn:gf P fd.type=some n)(hb:mj P fd.type=some b)(h1:b=true∨n=1)(hx:au x=some x')(e:ρ x'=.agg cs)(hl:fd.offset+n≤cs.length)(hm:oW b ((cs.drop fd.offset).take n)=some v)(ev:Ev ρ a g w)(hh:av g w H):Good P a o g w ns v H:=by have hv:=ev _ _ hx;rw[e]at hv;simp only[RV]at hv;obtain⟨z,h2,h3⟩:=hv;obtain⟨y,h4,h5⟩:=yw (P:=P) hn hb hl h3 hm h1;exact Good.val hh (by simp[execOp,ho,h2,Instr.field,run_underlying ht,hf,asAgg,h4]) h5
theorem Jn{t:TypeId}{x:Operand}{x':a_}{f off n:Nat}{fs:Array Field}{v:V}(ho:o.op=.fieldAddr t x f)(ht:P.underlying t=some (.struct fs))(hf:k9 P fs f=some (off,n))(h0:0<n)(hx:au x=some x')(h:bu ρ H ns (.fI off n x')=some (v,none))(ev:Ev ρ a g w)(hh:av g w H):Good P a o g w ns v H:=by
 have hv:=ev _ _ hx;simp only[k9,abb,aad,aae]at hf;obtain⟨fd,Ue,s,hs,rfl,rfl⟩:=hf;have cx:=cW (P:=P) hs w;have ew:s≠0:=by omega
 have ey:∀aO off,a.eval x=.pointer (some ⟨aO,off,none⟩)→(execOp a.eval o).run P w=.ok (.value (.pointer (some ⟨aO,off+fd.offset,none⟩))) w:=by intro aO off he;simp[execOp,ho,he,Instr.fieldAt,run_underlying ht,Ue,Instr.sureAddr,fieldPlace,cx,ew,Addr.fA]
 simp only[bu]at h;split at h<;>simp only[aab,aae,reduceCtorEq]at h
 ·rename_i b hb q e;obtain⟨rfl,_⟩:=h;rw[e]at hv;simp only[RV]at hv;obtain⟨⟨⟨aO,off,h1⟩,hd⟩,h2⟩:=hv;refine Good.val hh (ey _ _ h1) ?_;simp only[RV];refine⟨⟨⟨_,_,rfl⟩,hd⟩,fun y hy=>?_ ⟩;obtain⟨Dz,cp,cur,rfl,h3,h4⟩:=h2 y hy;refine⟨Dz,cp,cur,rfl,fun ec=>?_,h4⟩;have:=h3 ec;rw[h1]at this;simp only[Value.pointer.injEq,aab,Addr.mk.injEq,acf]at this;rw[this.1,this.2]
 ·rename_i cs e;obtain⟨rfl,_⟩:=h;rw[e]at hv;simp only[RV]at hv;obtain⟨aO,off,h1,h2,h3⟩:=hv;refine Good.val hh (ey _ _ h1) ?_;simp only[RV];refine⟨_,_,rfl,fun hn=>h2 (by rintro rfl;simp at hn),?_ ⟩;clear h1 ey h2 e;suffices h:∀(k:Nat)(ds:List D)(q:Nat),dh w (da g w) aO q ds→dh w (da g w) aO (q+k) (ds.drop k)∧dh w (da g w) aO q (ds.take k)from(h s _ _ (h fd.offset _ _ h3).1).2;intro k ds;induction ds generalizing k with
   |nil=>intro q _;simp[dh]
   |cons d ds ih=>
    intro q hq;cases k with
     |zero=>simp only[abz,List.take_zero,dh,acf,abk];simpa only[dh]using hq
     |succ k=>simp only[dh]at hq;obtain⟨h4,h5⟩:=ih k (q+1) hq.2;simp only[acv,acu,dh];refine⟨?_,hq.1,h5⟩;rw[show q+(k+1)=q+1+k by omega];exact h4
theorem dh.drop{im:Nat→Prop}{aO:Nat}:∀{ds:List D}{q:Nat}(k:Nat),dh w im aO q ds→dh w im aO (q+k) (ds.drop k)
 |[],_,k,_=>by simp[dh]
 |d::ds,q,0,h=>by simpa using h
 |d::ds,q,k+1,h=>by simp only[dh]at h;simp only[acv];rw[show q+(k+1)=q+1+k by omega];exact dh.drop k h.2
theorem Jo{t el:TypeId}{x i:Operand}{x' i':a_}{sz:Nat}{v:V}(ho:o.op=.indexAddr t x i)(ht:P.underlying t=some (.slice el))(hs:gf P el=some sz)(hx:au x=some x')(hi:au i=some i')(h:bu ρ H ns (.db sz x' i')=some (v,none))(ev:Ev ρ a g w)(hh:av g w H):Good P a o g w ns v H:=by
 have hv:=ev _ _ hx;simp only[bu]at h;split at h
 ·cases h
 ·rename_i j ej;obtain⟨k,hk⟩:=gg ej (ev _ _ hi);have ey:∀aO off len cap,a.eval x=.slice (some ⟨aO,off,none⟩) len cap→j<len→(execOp a.eval o).run P w=.ok (.value (.pointer (some ⟨aO,off+j*sz,none⟩))) w:=by
   intro aO off len cap he hj;have:((j:Int)<(len:Int)):=by omega
   simp[execOp,ho,he,Instr.indexAt,hk,asIntOf,run_underlying ht,hj,cW hs,Addr.fA]
  split at h
  ·rename_i es e;split at h
   ·rename_i d hd;cases hb:Nat.beq d.length sz with
     |false=>rw[hb]at h;cases h
     |true=>
      rw[hb]at h;simp only[aag,aab,aae]at h;obtain⟨rfl,_⟩:=h;rw[e]at hv;simp only[RV,Rd]at hv;have hj:j<es.length:=(aai.1 hd).1;rcases hv with⟨rfl,_⟩|⟨aO,off,cap,uy,h1,h2,h3,h4⟩
      ·simp at hj
      ·obtain⟨h5,h6⟩:=iG.get j h4 hd;have:uy=sz:=by rw[←h5];exact aah hb
       subst this;refine Good.val hh (ey _ _ _ _ h1 hj) ?_;simp only[RV];exact⟨_,_,rfl,fun _=>h3 (by rintro rfl;simp at hj),h6⟩
   ·cases h
  ·rename_i b hb off len uy e;cases hc:(Nat.beq sz uy&&Nat.blt j len&&dP H b hb)with
    |false=>rw[hc]at h;cases h
    |true=>
     rw[hc]at h;simp only[aag,aab,aae]at h;obtain⟨rfl,_⟩:=h;simp only[aac]at hc;have e1:=aah hc.1.1;subst e1;have hj:j<len:=by have:=hc.1.2;rwa[aas]at this
     rw[e]at hv;rcases jS hc.2 hh with⟨aO,cp,hg⟩|⟨rfl,hg⟩
     ·obtain⟨cap,h1,h2,h3⟩:=RV.pY hv hg;refine Good.val hh (ey _ _ _ _ h1 hj) ?_;simp only[RV];refine⟨⟨⟨_,_,rfl⟩,RV.cK hv⟩,fun y hy=>?_ ⟩;rw[hg]at hy;simp only[aab]at hy;subst hy;exact⟨_,_,_,rfl,fun _=>rfl,aao _⟩
     ·obtain⟨_,rfl,_⟩:=RV.u7 hv hg;omega
  ·cases h
theorem F_{t el:TypeId}{x i:Operand}{x' i':a_}{len sz:Nat}{v:V}(ho:o.op=.indexAddr t x i)(ht:P.underlying t=some (.array len el))(hs:gf P el=some sz)(hx:au x=some x')(hi:au i=some i')(h:bu ρ H ns (.sD len sz x' i')=some (v,none))(ev:Ev ρ a g w)(hh:av g w H):Good P a o g w ns v H:=by
 have hv:=ev _ _ hx;simp only[bu]at h;split at h
 ·cases h
 ·rename_i j ej;obtain⟨k,hk⟩:=gg ej (ev _ _ hi);cases hc:Nat.blt j len with
   |false=>rw[hc]at h;cases h
   |true=>
    rw[hc]at h;simp only[aag]at h;have hj:j<len:=by rwa[aas]at hc
    have ey:∀aO off,a.eval x=.pointer (some ⟨aO,off,none⟩)→(execOp a.eval o).run P w=.ok (.value (.pointer (some ⟨aO,off+j*sz,none⟩))) w:=by intro aO off he;simp[execOp,ho,he,Instr.indexAt,hk,asIntOf,run_underlying ht,hj,cW hs,Addr.fA,Instr.sureAddr]
    split at h<;>simp only[aab,aae,reduceCtorEq]at h
    ·rename_i b hb q e;obtain⟨rfl,_⟩:=h;rw[e]at hv;simp only[RV]at hv;obtain⟨⟨⟨aO,off,h1⟩,hd⟩,h2⟩:=hv;refine Good.val hh (ey _ _ h1) ?_;simp only[RV];refine⟨⟨⟨_,_,rfl⟩,hd⟩,fun y hy=>?_ ⟩;obtain⟨Dz,cp,cur,rfl,h3,h4⟩:=h2 y hy;refine⟨Dz,cp,cur,rfl,fun ec=>?_,h4⟩;have:=h3 ec;rw[h1]at this;simp only[Value.pointer.injEq,aab,Addr.mk.injEq,acf]at this;rw[this.1,this.2]
    ·rename_i cs e;obtain⟨rfl,_⟩:=h;rw[e]at hv;simp only[RV]at hv;obtain⟨aO,off,h1,h2,h3⟩:=hv;refine Good.val hh (ey _ _ h1) ?_;simp only[RV];exact⟨_,_,rfl,fun hn=>h2 (by rintro rfl;simp at hn),dh.drop _ h3⟩
theorem Mt{t:TypeId}{x i:Operand}{x' i':a_}{v:V}(ho:o.op=.index t x i)(ht:P.underlying t=some .string)(hx:au x=some x')(hi:au i=some i')(h:bu ρ H ns (.gF x' i')=some (v,none))(ev:Ev ρ a g w)(hh:av g w H):Good P a o g w ns v H:=by
 have hv:=ev _ _ hx;simp only[bu]at h;split at h
 ·cases h
 ·rename_i j ej;obtain⟨k,hk⟩:=gg ej (ev _ _ hi);split at h
  ·rename_i s e;split at h
   ·rename_i b hb;simp only[aab,aae]at h;obtain⟨rfl,_⟩:=h;rw[e]at hv;obtain⟨bs,h1,rfl⟩:=RV.str hv;refine Good.val (x:=.int .u8 b.toNat) hh ?_ (RV.AG _ _);have Pz:bs[j]? =some b:=by
     have bL:=(aai.1 hb).1;have Uf:j<bs.size:=by simpa using bL
     rw[getElem?_pos bs j Uf];have:=(aai.1 hb).2;rw[←this];rfl
    simp[execOp,ho,h1,Instr.index,hk,asIntOf,run_underlying ht,Pz]
   ·cases h
  ·cases h
theorem Mu{t el:TypeId}{x i:Operand}{x' i':a_}{len sz j:Nat}{b:Bool}{cs:List V}{v:V}(ho:o.op=.index t x i)(ht:P.underlying t=some (.array len el))(hs:gf P el=some sz)(hb:mj P el=some b)(h1:b=true∨sz=1)(hx:au x=some x')(hi:au i=some i')(ej:dp (ρ i')=some j)(e:ρ x'=.agg cs)(hj:j<len)(hl:len*sz≤cs.length)(hm:oW b ((cs.drop (j*sz)).take sz)=some v)(ev:Ev ρ a g w)(hh:av g w H):Good P a o g w ns v H:=by
 have hv:=ev _ _ hx;rw[e]at hv;simp only[RV]at hv;obtain⟨z,h2,h3⟩:=hv;obtain⟨k,hk⟩:=gg ej (ev _ _ hi);have hle:j*sz+sz≤cs.length:=by have:(j+1)*sz≤len*sz:=aaM _ hj;rw[aa3]at this;omega
 obtain⟨y,h4,h5⟩:=yw (P:=P) hs hb hle h3 hm h1;exact Good.val hh (by simp[execOp,ho,h2,Instr.index,hk,asIntOf,run_underlying ht,hj,cW hs,h4]) h5
theorem PA{x:Operand}{x':a_}{i:Nat}{vs:List V}{v:V}(ho:o.op=.extract x i)(hx:au x=some x')(e:ρ x'=.tuple vs)(hi:vs[i]? =some v)(ev:Ev ρ a g w)(hh:av g w H):Good P a o g w ns v H:=by
 have hv:=ev _ _ hx;rw[e]at hv;simp only[RV]at hv;obtain⟨z,h2,h3⟩:=hv;obtain⟨y,h4,h5⟩:=h3.get i hi;have Tt:z[i]? =some y:=by simpa using h4
 exact Good.val hh (by simp[execOp,ho,h2,Instr.extract,Tt]) h5
theorem hY(ev:Ev ρ a g w):∀{l:List Operand}{l':List a_},bJ au l=some l'→aP g w (bd ρ l') (l.map a.eval)
 |[],l',h=>by simp[bJ]at h;subst h;simp[bd,aP]
 |x::xs,l',h=>by
  simp only[bJ]at h;split at h
  ·cases h
  ·rename_i y hy;split at h
   ·cases h
   ·rename_i ys F0;simp only[aab]at h;subst h;simp only[bd,aax,aP];exact⟨ev _ _ hy,hY ev F0⟩
theorem Ga{f:FuncId}{p q:Array Operand}{p' q':List a_}(ho:o.op=.makeFunc (.func f) p q)(hp:bJ au p.toList=some p')(hq:bJ au q.toList=some q')(ev:Ev ρ a g w)(hh:av g w H):Good P a o g w ns (.func f (bd ρ p') (bd ρ q')) H:=by refine Good.val (x:=.func (.func f) (p.map a.eval) (q.map a.eval)) hh (by simp[execOp,ho,Instr.makeFunc]) ?_;simp only[RV];exact⟨_,_,rfl,by simpa using hY ev hp,by simpa using hY ev hq⟩
theorem Jp{t:TypeId}(ho:o.op=.makeMap t none)(hh:av g w H)(jo:jn g ns):Good P a o g w ns (.map ns) (bj H ns (.map [])):=by
 have he:=ch.new hh jo (.map #[] 0) (.obj w.heap.size) rfl;have h2:av (g.add ns (.obj w.heap.size)) (w.alloc (.map #[] 0)) (bj H ns (.map [])):=by refine av.new hh jo _ _ _ rfl ?_;simp only[RB];exact⟨#[],0,bS _ _,rfl,by simp,by simp,rfl⟩
 refine⟨_,_,.value (.map (some w.heap.size)),?_,.inl ⟨_,rfl,?_⟩,h2,he,fun _ h=>h⟩
 ·simp[execOp,ho,Instr.makeMap]
 ·simp only[RV];refine⟨⟨rfl,.inr rfl⟩,fun x hx=>?_ ⟩;simp[G.add]at hx;subst hx;exact⟨_,rfl,rfl⟩
theorem Jq{t kt el:TypeId}{x:Operand}{x':a_}{v:V}{wr:Wr}(ho:o.op=.range t x)(ht:P.underlying t=some (.map kt el))(hx:au x=some x')(h:bu ρ H ns (.range true x')=some (v,wr))(ev:Ev ρ a g w)(hh:av g w H)(jo:jn g ns):Good P a o g w ns v (aX H wr):=by
 have hv:=ev _ _ hx;simp only[bu,aag]at h;split at h
 ·rename_i b eb;rw[eb]at hv;simp only[RV]at hv;split at h
  ·rename_i es hg;simp only[aab,aae]at h;obtain⟨rfl,rfl⟩:=h;obtain⟨xb,nZ⟩:=hh.back b _ hg;obtain⟨hd,y,hy,hr⟩:=hh.live b xb nZ;rw[hg]at hy;simp only[aab]at hy;subst hy;obtain⟨aO,rfl,AH⟩:=hv.2 xb nZ;simp only[RB]at hr;obtain⟨bN,clock,h1,h2,h3,h4,h5⟩:=hr;have he:=ch.new hh jo (.mapIter (some aO) clock #[] clock) (.obj w.heap.size) rfl;have Tu:b≠ns:=by rintro rfl;exact jo hd
   have Zd:av (g.add ns (.obj w.heap.size)) (w.alloc (.mapIter (some aO) clock #[] clock)) (bj H ns (.dC b es.length [])):=by refine av.new hh jo _ _ _ rfl ?_;simp only[RB];refine⟨aO,#[],by rw[←h2,←h5];exact bS _ _,rfl,.inl hd,fun x hx=>?_ ⟩;simp only[G.add,Tu,abt]at hx;rw[nZ]at hx;simp only[aab]at hx;exact hx.symm
   refine⟨_,_,.value (.pointer (some ⟨w.heap.size,0,none⟩)),?_,.inl ⟨_,rfl,?_⟩,Zd,he,fun _ h=>h⟩
   ·simp[execOp,ho,Instr.range,run_underlying ht,AH,getObj,Sem.run,h1]
   ·simp only[RV];refine⟨⟨rfl,.inr rfl⟩,fun x hx=>?_ ⟩;simp[G.add]at hx;subst hx;exact⟨_,rfl,rfl⟩
  ·cases h
 ·cases h
theorem Jr{x:Operand}{x':a_}{v:V}{wr:Wr}(ho:o.op=.entry x)(hx:au x=some x')(h:bu ρ H ns (.entry x')=some (v,wr))(ev:Ev ρ a g w)(hh:av g w H):Good P a o g w ns v (aX H wr):=by
 have hv:=ev _ _ hx;simp only[bu]at h;split at h
 ·rename_i b m eb;rw[eb]at hv;simp only[RV]at hv;split at h
  ·rename_i m' n seen DA;split at h
   ·rename_i es X3;cases hc:(Nat.beq m' m&&Nat.beq es.length n)with
     |false=>rw[hc]at h;cases h
     |true=>
      rw[hc]at h;simp only[aag]at h;simp only[aac]at hc;obtain rfl:=aah hc.1;have hn:=aah hc.2;split at h
      ·rename_i i hi;split at h
       ·rename_i k u hk;simp only[aab,aae]at h;obtain⟨rfl,rfl⟩:=h;obtain⟨xb,nZ⟩:=hh.back b _ DA;obtain⟨_,y,hy,hr⟩:=hh.live b xb nZ;rw[DA]at hy;simp only[aab]at hy;subst hy;obtain⟨aO,rfl,AH⟩:=hv.2 xb nZ;simp only[RB]at hr;obtain⟨mb,sa,k1,k2,k3,k4⟩:=hr;obtain⟨xm,PB⟩:=hh.back m' _ X3;obtain⟨_,y,hy,sI⟩:=hh.live m' xm PB;rw[X3]at hy;simp only[aab]at hy;subst hy;obtain rfl:=k4 xm PB;simp only[RB]at sI;obtain⟨bN,clock,m1,m2,m3,m4,m5⟩:=sI;obtain⟨z,z1,z2,z3,z4⟩:=m3 i k u hk;have PD:sa.back?=some i:=by rw[←Array.getLast?_toList,k2];exact hi
        have PE:bN.find? (fun e=>e.born==i)=some z:=by have hb:=m4 i z z1;rw[Array.find?_eq_some_iff_getElem];obtain⟨bL,hz⟩:=abc.1 z1;refine⟨by simp[hb],i,bL,hz,fun j hj=>?_ ⟩;have:=m4 j _ (Array.getElem?_eq_getElem (by omega));simp[this];omega
        have Mv:(clock !=n)=false:=by simp;omega
        refine Good.val (x:=.tuple #[z.key,z.val]) hh ?_ ?_
        ·have Ze:clock=n:=by omega
         subst Ze;simp[execOp,ho,Instr.entry,AH,getObj,Sem.run,k1,PD,m1,PE]
        ·simp only[RV];exact⟨_,rfl,by simp only[aP,RV];exact⟨z3,z4,trivial⟩⟩
       ·cases h
      ·cases h
   ·cases h
  ·cases h
 ·cases h
theorem DB{t:TypeId}{d:TypeDesc}{x:Operand}{x':a_}(ho:o.op=.makeInterface t x)(ht:P.underlying t=some d)(hd:∀m,d≠ .interface m)(hx:au x=some x')(ev:Ev ρ a g w)(hh:av g w H):Good P a o g w ns (.iface t (ρ x')) H:=by refine Good.val (x:=.iface t (a.eval x)) hh ?_ (by simp only[RV];exact⟨_,rfl,ev _ _ hx⟩);cases d<;>simp_all[execOp,Instr.makeInterface,run_underlying ht]
def Gb(P:Program)(t:TypeId):kW→Prop| .str=>P.underlying t=some .string| .slice=>∃e,P.underlying t=some (.slice e)| .map=>∃k e,P.underlying t=some (.map k e)| .arr _=>False
theorem wE{u:V}{v:Value}{k:kW}{n:Nat}{t ty:TypeId}(h:fZ H k u=some n)(hv:RV g w u v)(hh:av g w H)(hk:Gb P t k):(Builtin.len_ #[t] ty #[v]).run P w=.ok (goInt n) w:=by
 cases k with
  |str=>
   simp only[Gb]at hk;cases u with
    |d x=>
     cases x with
      |str s=>simp only[fZ,aab]at h;subst h;obtain⟨b,rfl,rfl⟩:=RV.str hv;simp[Builtin.len_,run_underlying hk]
      |_=>simp[fZ]at h
    |_=>simp[fZ]at h
  |slice=>
   obtain⟨e,he⟩:=hk;cases u with
    |d x=>
     cases x with
      |list es=>simp only[fZ,aab]at h;subst h;simp only[RV,Rd]at hv;rcases hv with⟨rfl,rfl|⟨_,_,rfl⟩⟩|⟨aO,off,cap,sz,rfl,_⟩<;>simp[Builtin.len_,run_underlying he]
      |_=>simp[fZ]at h
    |ab=>simp only[fZ,aab]at h;subst h;simp only[RV]at hv;subst hv;simp[Builtin.len_,run_underlying he]
    |sl b hb off len sz=>
     simp only[fZ]at h;cases hl:dP H b hb with
      |false=>rw[hl]at h;cases h
      |true=>
       rw[hl]at h;simp only[aag,aab]at h;subst h;rcases jS hl hh with⟨aO,cp,hg⟩|⟨rfl,hg⟩
       ·obtain⟨cap,rfl,_⟩:=RV.pY hv hg;simp[Builtin.len_,run_underlying he]
       ·obtain⟨_,rfl,_,rfl⟩:=RV.u7 hv hg;simp[Builtin.len_,run_underlying he]
    |_=>simp[fZ]at h
  |map=>
   obtain⟨kt,e,he⟩:=hk;cases u with
    |d x=>cases x<;>simp[fZ]at h
    |kV=>simp only[fZ,aab]at h;subst h;simp only[RV]at hv;subst hv;simp[Builtin.len_,run_underlying he]
    |map b=>
     simp only[fZ]at h;split at h
     ·rename_i es hg;simp only[aab]at h;subst h;obtain⟨x,hx⟩:=hh.back b _ hg;obtain⟨_,y,hy,hr⟩:=hh.live b x hx;rw[hg]at hy;simp only[aab]at hy;subst hy;simp only[RV]at hv;obtain⟨aO,rfl,rfl⟩:=hv.2 x hx;simp only[RB]at hr;obtain⟨bN,clock,h1,h2,_⟩:=hr;simp[Builtin.len_,run_underlying he,getObj,Sem.run,h1,h2]
     ·cases h
    |_=>simp[fZ]at h
  |arr=>exact hk.elim
theorem u9{sz:Nat}{u:V}{v:Value}{xs:List V}(h:cC H sz u=some xs)(hv:RV g w u v)(hh:av g w H)(cx:0<sz):∃n vs,(Builtin.lenOf v).run P w=.ok n w∧(Builtin.firstCells sz n v).run P w=.ok vs.toArray w∧aP g w xs vs∧vs.length=n*sz:=by
 cases u with
  |ab=>simp only[cC,aab]at h;subst h;simp only[RV]at hv;subst hv;exact⟨0,[],by simp[Builtin.lenOf],by simp[Builtin.firstCells],by simp[aP],by simp⟩
  |d x=>
   cases x with
    |list es=>
     simp only[cC]at h;cases hc:es.all (fun e=>Nat.beq e.length sz)with
      |false=>rw[hc]at h;cases h
      |true=>
       rw[hc]at h;simp only[aag,aab]at h;subst h;rcases RV.list hv (Cb hc)with⟨rfl,rfl|⟨_,_,rfl⟩⟩|⟨aO,off,cap,rfl,_,_,h4⟩
       ·exact⟨0,[],by simp[Builtin.lenOf],by simp[Builtin.firstCells],by simp[aP],by simp⟩
       ·exact⟨0,[],by simp[Builtin.lenOf],by simp[Builtin.firstCells,loadCells,loadCellsFrom],by simp[aP],by simp⟩
       ·have Li:∀(es:List (List D))(off:Nat),iG w (da g w) aO off sz es→dh w (da g w) aO off es.flatten:=by
         intro es;induction es with
          |nil=>intro off _;simp[dh]
          |cons e es ih=>
           intro off h;simp only[iG]at h;obtain⟨q1,q2,q3⟩:=h;have aX:∀(ds OI:List D)(q:Nat),dh w (da g w) aO q ds→dh w (da g w) aO (q+ds.length) OI→dh w (da g w) aO q (ds++OI):=by
            intro ds OI;induction ds with
             |nil=>intro q _ h;simpa using h
             |cons d ds ih=>intro q h1 h2;simp only[dh]at h1;simp only[abo,dh];refine⟨h1.1,ih (q+1) h1.2 ?_⟩;rw[show q+1+ds.length=q+(d::ds).length by simp;omega];exact h2
           simp only[List.flatten_cons];exact aX _ _ _ q2 (by rw[q1];exact ih _ q3)
        obtain⟨vs,k1,k2⟩:=dh.pW (Li es off h4);have hlen:vs.length=es.length*sz:=by
         have:=k1.length;simp only[aar]at this;rw[←this];have Ug:∀(es:List (List D)),es.all (fun e=>Nat.beq e.length sz)=true→es.flatten.length=es.length*sz:=by
          clear this k1 k2 vs hv h4 Li hc;intro es hc;induction es with
           |nil=>simp
           |cons e es ih=>simp only[aaF,aac]at hc;simp only[List.flatten_cons,aaA,aav];rw[ih hc.2,aah hc.1,aa3];omega
         exact Ug es hc
        have:=run_loadCells_list (P:=P) w ⟨aO,off,none⟩ vs (fun j x hj=>by rw[Addr.fA];exact k2 j x hj);exact⟨es.length,vs,by simp[Builtin.lenOf],by simp only[Builtin.firstCells];rw[←hlen];exact this,k1,hlen⟩
    |str s=>
     simp only[cC]at h;cases hq:Nat.beq sz 1 with
      |false=>rw[hq]at h;cases h
      |true=>
       rw[hq]at h;have:=aah hq;subst this;simp only[aag,aab]at h;subst h;obtain⟨b,rfl,rfl⟩:=RV.str hv;refine⟨b.size,b.data.toList.map (fun x=>.int .u8 x.toNat),by simp[Builtin.lenOf],?_,?_,by simp⟩
       ·have e:b.extract 0 b.size=b:=by apply ByteArray.ext;rw[ByteArray.data_extract];apply acS;simp only[acR,acx,abz,abS];exact abf (by simp)
        simp only[Builtin.firstCells,e,Sem.run_pure];congr 1;apply acS;simp
       ·generalize b.data.toList=l;induction l with
         |nil=>simp[aP]
         |cons x l ih=>simp only[aax,aP];exact⟨RV.AG _ _,ih⟩
    |_=>simp[cC]at h
  |sl b hb off len uy=>
   simp only[cC]at h;cases hq:Nat.beq sz uy with
    |false=>rw[hq]at h;cases h
    |true=>
     have e1:=aah hq;subst e1;rw[hq]at h;simp only[aag]at h;cases hg:aA H b with
      |none=>simp[hg]at h
      |some y=>
       cases y with
        |cells cs=>
         simp only[hg]at h;cases hc:(Nat.beq cs.length hb&&Nat.ble (off+len*sz) hb)with
          |false=>rw[hc]at h;cases h
          |true=>
           rw[hc]at h;simp only[aag,aab]at h;subst h;simp only[aac]at hc;have e2:=aak hc.2;obtain⟨aO,cp,c,e,h1,h2,h3,h4,h5,h6,h7⟩:=lf hg hc.1 hh;obtain⟨cap,rfl,h8,h9⟩:=RV.pY hv h1;refine⟨len,((c.toList.take hb).drop off).take (len*sz),by simp[Builtin.lenOf],?_,(h7.drop off).take _,by simp;omega⟩;have hlen:(((c.toList.take hb).drop off).take (len*sz)).length=len*sz:=by simp;omega
           have:=run_loadCells_list (P:=P) w ⟨aO,off,none⟩ (((c.toList.take hb).drop off).take (len*sz)) (fun j x hj=>by
            rw[Addr.fA];rw[aaL]at hj;split at hj
            ·rw[aa7,aaL]at hj;split at hj
             ·simp only[World.cell?,h5];simpa using hj
             ·cases hj
            ·cases hj)
           simp only[Builtin.firstCells];rw[hlen]at this;exact this
        |nil=>
         simp only[hg]at h;cases hc:Nat.beq len 0 with
          |false=>rw[hc]at h;cases h
          |true=>
           rw[hc]at h;simp only[aag,aab]at h;subst h;obtain⟨x,hx⟩:=hh.back b _ hg;obtain⟨_,y,hy,hr⟩:=hh.live b x hx;rw[hg]at hy;simp only[aab]at hy;subst hy;cases x with
            |cells=>simp only[RB]at hr
            |obj=>simp only[RB]at hr
            |nil=>obtain⟨_,rfl,_,rfl⟩:=RV.u7 hv hx;exact⟨0,[],by simp[Builtin.lenOf],by simp[Builtin.firstCells],by simp[aP],by simp⟩
        |_=>simp[hg]at h
  |_=>simp[cC]at h
end
end Fw
/-
  Operations, further: append.
-/
namespace Fw
open Go
section
variable {P:Program}{a:Act}{o:Oper}{g:G}{w:World}{ρ:a_→V}{H:ah}{ns:Nat}
theorem lg{t u e ty:TypeId}{i:TypeInfo}{base:Option Addr}{dX kA n:Nat}{v:Value}{news:List Value}{w':World}(ht:P.underlying t=some (.slice e))(hu:(∃e2,P.underlying u=some (.slice e2))∨P.underlying u=some .string)(hi:P.info? e=some i)(hlen:(Builtin.lenOf v).run P w=.ok n w)(wF:(Builtin.firstCells i.size n v).run P w=.ok news.toArray w)(jT:dX+n≤kA)(sF:∀a,base=some a→(storeCells (a.add (dX*i.size)) news).run P w=.ok () w')(hn:base=none→w'=w):(Builtin.append_ #[t,u] ty #[.slice base dX kA,v]).run P w=.ok (.slice base (dX+n) kA) w':=by
 cases base with
  |none=>have:=hn rfl;subst this;rcases hu with⟨e2,hu⟩|hu<;>simp[Builtin.append_,run_underlying ht,run_underlying hu,Go.sizeOf,typeInfo,hi,hlen,jT,wF]
  |some b=>have:=sF b rfl;rcases hu with⟨e2,hu⟩|hu<;>simp[Builtin.append_,run_underlying ht,run_underlying hu,Go.sizeOf,typeInfo,hi,hlen,jT,wF,this]
theorem wG{t u e ty:TypeId}{i:TypeInfo}{z:Value}{base:Option Addr}{dX kA n:Nat}{v:Value}{wH news:List Value}(ht:P.underlying t=some (.slice e))(hu:(∃e2,P.underlying u=some (.slice e2))∨P.underlying u=some .string)(hi:P.info? e=some i)(hz:i.zero=some z)(hlen:(Builtin.lenOf v).run P w=.ok n w)(wF:(Builtin.firstCells i.size n v).run P w.drew=.ok news.toArray w.drew)(yx:(Builtin.firstCells i.size dX (.slice base dX kA)).run P w.drew=.ok wH.toArray w.drew)(hg:kA<dX+n)(Uh:((dX+n:Nat):Int)≤9223372036854775807)(Mw:Builtin.nextslicecap (dX+n) kA*i.bytes≤281474976710656):(Builtin.append_ #[t,u] ty #[.slice base dX kA,v]).run P w=.ok (.slice (some ⟨w.heap.size,0,none⟩) (dX+n) (grownCap w (dX+n) kA e)) (w.drew.alloc (.cells (wH.toArray++news.toArray++Builtin.zeroCells z.cells (grownCap w (dX+n) kA e - (dX+n))) e)):=by
 have hn:¬(dX+n≤kA):=by omega
 have Ui:¬(9223372036854775807<((dX:Int)+(n:Int))):=by omega
 have Uj:¬(281474976710656<Builtin.nextslicecap (dX+n) kA*i.bytes):=by omega
 rcases hu with⟨e2,hu⟩|hu<;>simp[Builtin.append_,run_underlying ht,run_underlying hu,Go.sizeOf,typeInfo,zeroValue,hi,hz,hlen,hn,Ui,Uj,Question.forced,wF,yx,newRow,grownCap]<;>(congr 2;apply acS;simp)
theorem jU(g:G)(w:World):ch g w g w.drew:=⟨rfl,rfl,rfl,aao _,fun _ h=>⟨h,rfl⟩,fun _ h=>h,fun _ _=>GB.step.refl _,rfl,fun _ _=>rfl⟩
theorem av.drew(hh:av g w H):av g w.drew H:=hh.ext (jU g w) (fun _ _ _ _ _=>rfl)
theorem aP.wI{us:List V}{n m:Nat}(h:n=m)(hv:us.length=n):us.length=m:=by omega
theorem Gc{t u e ty:TypeId}{i:TypeInfo}{zs:List V}{x y:Operand}{x' y':a_}{xs:List V}{v:V}{wr:Wr}(ho:o.op=.call {callee:=.builtin .append,args:= #[x,y],argTypes:= #[t,u]})(PF:o.type=ty)(ht:P.underlying t=some (.slice e))(hu:(∃e2,P.underlying u=some (.slice e2))∨P.underlying u=some .string)(hi:P.info? e=some i)(hz:dF P e=some zs)(h0:0<i.size)(T_:zs.length=i.size)(hx:au x=some x')(hy:au y=some y')(hs:cC H i.size (ρ y')=some xs)(ha:cF H ns i.size i.bytes (ρ x') xs=some (v,wr))(ev:Ev ρ a g w)(hh:av g w H)(jo:jn g ns):Good P a o g w ns v (aX H wr):=by
 have cE:=ev _ _ hx;have dM:=ev _ _ hy;simp only[dF,abb]at hz;obtain⟨z,⟨i',ld,yq⟩,hm⟩:=hz;rw[hi]at ld;simp only[aab]at ld;subst ld;have Lj:z.cells.size=i.size:=by have:=cO hm;simp at this;omega
 obtain⟨n,news,f1,f2,f3,f4⟩:=u9 (P:=P) hs dM hh h0;obtain⟨n',iP,f1',Zf,OJ,X4⟩:=u9 (P:=P) hs (RV.ext (jU g w) _ _ dM) hh.drew h0;have Zg:n'=n:=by
  have e1:=OJ.length;have e2:=f3.length;have:n'*i.size=n*i.size:=by omega
  exact Nat.eq_of_mul_eq_mul_right h0 this
 subst Zg;have yf:xs.length=n'*i.size:=by rw[f3.length,f4]
 have uH:xs.length / i.size=n':=by rw[yf];exact abT _ h0
 unfold cF at ha;cases X5:Nat.beq i.size 0 with
  |true=>rw[X5]at ha;cases ha
  |false=>
   rw[X5]at ha;simp only[aaw]at ha;cases Ca:Nat.beq (xs.length%i.size) 0 with
    |false=>rw[Ca]at ha;cases ha
    |true=>
     rw[Ca]at ha;simp only[aa',aaw]at ha;cases eF:xs.all dE with
      |false=>rw[eF]at ha;cases ha
      |true=>
       rw[eF]at ha;simp only[aa',aaw]at ha;have DC:∀(vx:Value)(r:Value)(w':World),a.eval x=vx→(Builtin.append_ #[t,u] ty #[vx,a.eval y]).run P w=.ok r w'→(execOp a.eval o).run P w=.ok (.value r) w':=by intro vx r w' e1 e2;subst PF;simp[execOp,ho,resolve,invoke,builtin,e1,e2]
       have Gd:∀(Mx:Option Addr)(dX kA:Nat)(wH:List Value)(Js:List V),a.eval x=.slice Mx dX kA→aP g w Js wH→Js.all dE=true→wH.length=dX*i.size→(Builtin.firstCells i.size dX (.slice Mx dX kA)).run P w.drew=.ok wH.toArray w.drew→kA<dX+n'→((Js.length+xs.length)*(i.bytes+1)≤cq)→∃w' cap,(execOp a.eval o).run P w=.ok (.value (.slice (some ⟨w.heap.size,0,none⟩) (dX+n') cap)) w'∧w'=w.drew.alloc (.cells (wH.toArray++iP.toArray++Builtin.zeroCells z.cells (cap - (dX+n'))) e)∧dX+n'≤cap∧(wH.toArray++iP.toArray++Builtin.zeroCells z.cells (cap - (dX+n'))).size=cap*i.size:=by
        intro Mx dX kA wH Js e1 e2 e3 e4 e5 e6 e7;have hol:Js.length=dX*i.size:=by rw[e2.length,e4]
        have PG:(dX+n')*i.size=Js.length+xs.length:=by rw[aa3];omega
        have hle:dX+n'≤Js.length+xs.length:=by rw[←PG];exact acE _ h0
        have hb:(dX+n')*i.bytes≤140737488355328:=by
         have e1:(dX+n')*i.bytes≤(Js.length+xs.length)*(i.bytes+1):=Nat.mul_le_mul hle (by omega);have e2:cq≤140737488355328:=by decide
         omega
        have Uh:dX+n'≤140737488355328:=by
         have e1:dX+n'≤(Js.length+xs.length)*(i.bytes+1):=aa_ hle (acE _ (by omega));have e2:cq≤140737488355328:=by decide
         omega
        have hr:=wG (ty:=ty) ht hu hi yq f1 Zf e5 e6 (by omega) (growslice_fits e6 hb);refine⟨_,_,DC _ _ _ e1 hr,rfl,grownCap_ge _ _ _ _,?_⟩;have OK:=grownCap_ge w (dX+n') kA e;simp only[Array.size_append,List.size_toArray,size_zeroCells,Lj,e4,X4,←aa3];congr 1;omega
       split at ha
       ·rename_i ex;rw[ex]at cE;simp only[RV]at cE;split at ha
        ·simp only[aab,aae]at ha;obtain⟨rfl,rfl⟩:=ha;have My:n'=0:=by
          have Uk:n'*i.size=0:=by rw[←yf];rfl
          rcases abW.1 Uk with h|h<;>omega
         subst My;have hr:=lg (ty:=ty) (base:=none) (dX:=0) (kA:=0) ht hu hi f1 f2 (aao _) (fun a h=>by cases h) (fun _=>rfl);exact Good.val (x:=.slice none 0 0) hh (DC _ _ _ cE hr) (by simp only[RV])
        ·rename_i ew;cases hc:Nat.ble (xs.length*(i.bytes+1)) cq with
          |false=>rw[hc]at ha;cases ha
          |true=>
           rw[hc]at ha;simp only[aag,aab,aae]at ha;obtain⟨rfl,rfl⟩:=ha;have nD:0<n':=by
            rcases Nat.eq_zero_or_pos n' with h|h
            ·subst h;simp at yf;exact absurd yf ew
            ·exact h
           obtain⟨w',cap,k1,rfl,k3,k4⟩:=Gd none 0 0 [] [] cE (by simp[aP]) rfl (by simp) (by simp[Builtin.firstCells]) (by omega) (by simpa using aak hc);have he:=ch.new (w:=w.drew) hh.drew jo (.cells (([]:List Value).toArray++iP.toArray++Builtin.zeroCells z.cells (cap - (0+n'))) e) (.cells w.heap.size (cap*i.size) xs.length) rfl;refine⟨_,_,_,k1,.inl ⟨_,rfl,?_⟩,av.new hh.drew jo _ _ _ rfl ?_,(jU g w).trans he,fun _ h=>h⟩
           ·rw[uH,aau];refine RV.AJ (cp:=cap*i.size) (.inr rfl) (by simp[G.add]) (by omega) (by omega)
           ·simp only[RB];refine⟨trivial,eF,by rw[yf];exact aaM _ (by omega),_,e,bS _ _,by rw[k4];exact aao _,?_ ⟩;have:((([]:List Value).toArray++iP.toArray++Builtin.zeroCells z.cells (cap - (0+n'))).toList).take xs.length=iP:=by simp only[abv,abD,ab5];rw[show xs.length=iP.length by rw[OJ.length],acD]
            rw[this];exact aP.ext he _ _ OJ
       ·rename_i b hb off len uy ex;cases hq:Nat.beq i.size uy with
         |false=>rw[hq]at ha;cases ha
         |true=>
          have e1:=aah hq;rw[hq]at ha;simp only[aag]at ha;rw[ex]at cE;rw[←e1]at cE;split at ha
          ·rename_i cs hg;cases hc:(Nat.beq cs.length hb&&Nat.beq off 0&&Nat.beq (len*i.size) hb&&Nat.ble ((hb+xs.length)*(i.bytes+1)) cq)with
            |false=>rw[hc]at ha;cases ha
            |true=>
             rw[hc]at ha;simp only[aag,aab,aae]at ha;obtain⟨rfl,rfl⟩:=ha;simp only[aac]at hc;have e2:=aah hc.1.1.2;subst e2;have e3:=aah hc.1.2;obtain⟨aO,cp,c,ce,Mz,h2,h3,h4,h5,h6,h7⟩:=lf hg hc.1.1.1 hh;obtain⟨cap,h8,h9,h10⟩:=RV.pY cE Mz;have gQ:=RV.cK cE;by_cases jT:len+n'≤cap
             ·have Mw:hb+xs.length≤cp:=by have:(len+n')*i.size≤cap*i.size:=aaM _ jT;rw[aa3]at this;omega
              have sF:=run_storeCells_at P aO (len*i.size) ce news 0 c w h5 (by rw[f4];simp;omega) (aP.one eF f3);simp only[abk]at sF;rw[←jR _ _ _ (by rw[f4];simp;omega),e3]at sF;have hr:=lg (ty:=ty) (base:=some ⟨aO,0,none⟩) ht hu hi f1 f2 jT (fun q hq=>by simp only[aab]at hq;subst hq;rw[Addr.fA,aau,e3];exact sF) (fun h=>by cases h);have hw:∀j,j≠aO→(w.setRow aO (putCells c.toList hb news).toArray).heap[j]? =w.heap[j]? :=fun j hj=>setRow_other w aO j _ hj
              have yy:GB.step (some (.cells aO cp hb)) (some (.cells aO cp (hb+xs.length))):=by
               by_cases hz:xs.length=0
               ·left;rw[hz];rfl
               ·right;exact⟨_,_,_,rfl,by omega⟩
              have Lk:∀j,j<w.heap.size→some j≠some aO→(w.setRow aO (putCells c.toList hb news).toArray).heap[j]? =w.heap[j]? :=fun j _ hj=>hw j (fun e=>hj (by rw[e]))
              have he:ch g w (g.set b (.cells aO cp (hb+xs.length))) (w.setRow aO (putCells c.toList hb news).toArray):=ch.grow (hh.Mm Mz rfl) Mz rfl yy (.inl rfl) rfl rfl rfl (by simp) Lk;refine⟨_,_,_,DC _ _ _ h8 hr,.inl ⟨_,rfl,?_⟩,av.grow (x':=.cells aO cp (hb+xs.length)) hh _ Mz rfl (.inl rfl) he Lk ?_,he,fun _ h=>.inl h⟩
              ·rw[uH];refine RV.AJ (cp:=cp) gQ (by simp[G.set]) (by omega) (by omega)
              ·simp only[RB];have nC:∀(l:List Value)(i:Nat)(vs:List Value),(putCells l i vs).length=l.length:=by
                intro l i vs;induction vs generalizing l i with
                 |nil=>rfl
                 |cons v vs ih=>simp[putCells,ih]
               refine⟨by simp;omega,by simp only[acy,h2,eF,aaR],by simp;omega,_,ce,setRow_heap w aO c _ ce _ h5,by simp[nC];omega,?_ ⟩;have e5:(putCells c.toList hb news).take (cs++xs).length=c.toList.take hb++news:=by
                rw[jR _ _ _ (by rw[f4];simp;omega)];have:(cs++xs).length=(c.toList.take hb++news).length:=by simp[f4,yf];omega
                rw[this,acD]
               rw[ab5,e5];exact aP.append (aP.ext he _ _ h7) (aP.ext he _ _ f3)
             ·have yx:(Builtin.firstCells i.size len (.slice (some ⟨aO,0,none⟩) len cap)).run P w.drew=.ok (c.toList.take hb).toArray w.drew:=by
               have hl:(c.toList.take hb).length=len*i.size:=by simp;omega
               have:=run_loadCells_list (P:=P) w.drew ⟨aO,0,none⟩ (c.toList.take hb) (fun j x hj=>by
                rw[Addr.fA,aau];rw[aaL]at hj;split at hj
                ·have Tr:w.drew.heap[aO]? =some (.cells c ce (0,0)):=h5;simp only[World.cell?,Tr];simpa using hj
                ·cases hj)
               rw[hl]at this;simpa[Builtin.firstCells]using this
              obtain⟨w',AK,k1,rfl,k3,k4⟩:=Gd (some ⟨aO,0,none⟩) len cap (c.toList.take hb) cs h8 h7 h2 (by simp;omega) yx (by omega) (by rw[h3];exact aak hc.2);have yy:GB.step (some (.cells aO cp hb)) (some (.cells w.heap.size (AK*i.size) (hb+xs.length))):=by
               right;refine⟨_,_,_,rfl,?_⟩;have:0<xs.length:=by rw[yf];exact Nat.mul_pos (by omega) h0
               omega
              have Lk:∀j,j<w.drew.heap.size→some j≠some aO→(w.drew.alloc (.cells ((c.toList.take hb).toArray++iP.toArray++Builtin.zeroCells z.cells (AK - (len+n'))) e)).heap[j]? =w.drew.heap[j]? :=fun j hj _=>cL _ _ hj
              have he:ch g w.drew (g.set b (.cells w.heap.size (AK*i.size) (hb+xs.length))) (w.drew.alloc (.cells ((c.toList.take hb).toArray++iP.toArray++Builtin.zeroCells z.cells (AK - (len+n'))) e)):=ch.grow (hh.drew.Mm Mz rfl) Mz rfl yy (.inr ⟨_,rfl,aao _⟩) rfl rfl rfl (by simp) Lk;refine⟨_,_,_,k1,.inl ⟨_,rfl,?_⟩,av.grow hh.drew _ Mz rfl (.inr ⟨_,rfl,aao _⟩) he Lk ?_,(jU g w).trans he,fun _ h=>.inl h⟩
              ·rw[uH];refine RV.AJ (cp:=AK*i.size) gQ (by simp[G.set]) (by omega) (by omega)
              ·simp only[RB];refine⟨by simp;omega,by simp only[acy,h2,eF,aaR],?_,_,e,bS _ _,by rw[k4];exact aao _,?_ ⟩
               ·have:(len+n')*i.size≤AK*i.size:=aaM _ k3;rw[aa3]at this;simp;omega
               ·have e5:((c.toList.take hb).toArray++iP.toArray++Builtin.zeroCells z.cells (AK - (len+n'))).toList.take (cs++xs).length=c.toList.take hb++iP:=by
                 simp only[abD,ab5];have:(cs++xs).length=(c.toList.take hb++iP).length:=by simp[X4,yf];omega
                 rw[this,acD]
                rw[e5];exact aP.append (aP.ext ((jU g w).trans he) _ _ h7) (aP.ext he _ _ OJ)
          ·rename_i hg;cases hc:(Nat.beq hb 0&&Nat.beq off 0&&Nat.beq len 0)with
            |false=>rw[hc]at ha;cases ha
            |true=>
             rw[hc]at ha;simp only[aag]at ha;simp only[aac]at hc;have q1:=aah hc.1.1;have q2:=aah hc.1.2;have q3:=aah hc.2;subst q1;subst q2;subst q3;obtain⟨xb,nZ⟩:=hh.back b _ hg;obtain⟨_,yb,Ul,hr⟩:=hh.live b xb nZ;rw[hg]at Ul;simp only[aab]at Ul;subst Ul;cases xb with
              |cells=>simp only[RB]at hr
              |obj=>simp only[RB]at hr
              |nil=>
               have gQ:=RV.cK cE;obtain⟨_,_,_,Um⟩:=RV.u7 cE nZ;split at ha
               ·simp only[aab,aae]at ha;obtain⟨rfl,rfl⟩:=ha;have My:n'=0:=by
                 have Uk:n'*i.size=0:=by rw[←yf];rfl
                 rcases abW.1 Uk with h|h<;>omega
                subst My;have X6:=lg (ty:=ty) (base:=none) (dX:=0) (kA:=0) ht hu hi f1 f2 (aao _) (fun a h=>by cases h) (fun _=>rfl);refine Good.val (x:=.slice none 0 0) hh (DC _ _ _ Um X6) ?_;rw[Um]at cE;rw[e1]at cE;rw[ex];exact cE
               ·rename_i ew;cases ka:Nat.ble (xs.length*(i.bytes+1)) cq with
                 |false=>rw[ka]at ha;cases ha
                 |true=>
                  rw[ka]at ha;simp only[aag,aab,aae]at ha;obtain⟨rfl,rfl⟩:=ha;have nD:0<n':=by
                   rcases Nat.eq_zero_or_pos n' with h|h
                   ·subst h;simp at yf;exact absurd yf ew
                   ·exact h
                  obtain⟨w',cap,k1,rfl,k3,k4⟩:=Gd none 0 0 [] [] Um (by simp[aP]) rfl (by simp) (by simp[Builtin.firstCells]) (by omega) (by simpa using aak ka);have PH:0<xs.length:=by rw[yf];exact Nat.mul_pos nD h0
                  have Lk:∀j,j<w.drew.heap.size→some j≠none→(w.drew.alloc (.cells (([]:List Value).toArray++iP.toArray++Builtin.zeroCells z.cells (cap - (0+n'))) e)).heap[j]? =w.drew.heap[j]? :=fun j hj _=>cL _ _ hj
                  have he:ch g w.drew (g.set b (.cells w.heap.size (cap*i.size) xs.length)) (w.drew.alloc (.cells (([]:List Value).toArray++iP.toArray++Builtin.zeroCells z.cells (cap - (0+n'))) e)):=ch.grow (hh.drew.Mm nZ rfl) nZ rfl (.inr ⟨_,_,_,rfl,PH⟩) (.inr ⟨_,rfl,aao _⟩) rfl rfl rfl (by simp) Lk;refine⟨_,_,_,k1,.inl ⟨_,rfl,?_⟩,av.grow hh.drew _ nZ rfl (.inr ⟨_,rfl,aao _⟩) he Lk ?_,(jU g w).trans he,fun _ h=>.inl h⟩
                  ·rw[uH,aau];refine RV.AJ (cp:=cap*i.size) gQ (by simp[G.set]) (by omega) (by omega)
                  ·simp only[RB];refine⟨trivial,eF,by rw[yf];exact aaM _ (by omega),_,e,bS _ _,by rw[k4];exact aao _,?_ ⟩;have:((([]:List Value).toArray++iP.toArray++Builtin.zeroCells z.cells (cap - (0+n'))).toList).take xs.length=iP:=by simp only[abv,abD,ab5];rw[show xs.length=iP.length by rw[OJ.length],acD]
                   rw[this];exact aP.ext he _ _ OJ
          ·cases ha
       ·cases ha
end
end Fw
/-
  Operations, further: maps, min and max; all together.
-/
namespace Fw
open Go
section
variable {P:Program}{a:Act}{o:Oper}{g:G}{w:World}{ρ:a_→V}{H:ah}{ns:Nat}
def gh(P:Program)(t:TypeId):cB→Prop| .int=>∃k,P.underlying t=some (.int k)| .str=>P.underlying t=some .string| .bool=>P.underlying t=some .bool
theorem o3{kk:cB}{t:TypeId}(h:gh P t kk)(e:Bool)(v:Value):(Instr.checkKey e 10000 t v).run P w=.ok () w:=by
 have key:∀n,(Instr.checkKey e (n+1) t v).run P w=.ok () w:=by
  intro n;cases kk with
   |int=>obtain⟨k,hk⟩:=h;simp[Instr.checkKey,run_underlying hk]
   |str=>simp only[gh]at h;simp[Instr.checkKey,run_underlying h]
   |bool=>simp only[gh]at h;simp[Instr.checkKey,run_underlying h]
 exact key 9999
theorem wJ(s t:ByteArray):(s==t)=Fw.ai s.data.toList t.data.toList:=by
 have e:(s==t)=(s.data==t.data):=by cases s;cases t;rfl
 rw[e,fK];by_cases h:s.data=t.data
 ·simp[h]
 ·have:¬s.data.toList=t.data.toList:=fun e=>h (acS e)
  simp[h]
theorem AL{kk:cB}{t:TypeId}{d:TypeDesc}{k x:D}{kv xv:Value}{im:Nat→Prop}(ht:gh P t kk)(hd:P.underlying t=some d)(hk:eM kk k=true)(h1:Rd w im k kv)(h2:Rd w im x xv){b:Bool}(h:yd k x=some b):Instr.sameNow d kv xv=some b:=by
 cases kk with
  |int=>
   obtain⟨ik,AM⟩:=ht;rw[hd]at AM;simp only[aab]at AM;subst AM;cases k with
    |int k1 n1=>
     cases x with
      |int k2 n2=>simp only[Rd]at h1 h2;subst h1;subst h2;simpa[yd,Instr.sameNow]using h
      |_=>simp[yd]at h
    |_=>simp[eM]at hk
  |str=>
   simp only[gh]at ht;rw[hd]at ht;simp only[aab]at ht;subst ht;cases k with
    |str k1=>
     cases x with
      |str k2=>simp only[Rd]at h1 h2;obtain⟨s1,rfl,rfl⟩:=h1;obtain⟨s2,rfl,rfl⟩:=h2;simp only[yd,aab]at h;simp[Instr.sameNow,wJ,h]
      |_=>simp[yd]at h
    |_=>simp[eM]at hk
  |bool=>
   simp only[gh]at ht;rw[hd]at ht;simp only[aab]at ht;subst ht;cases k with
    |bool k1=>
     cases x with
      |bool k2=>simp only[Rd]at h1 h2;subst h1;subst h2;simpa[yd,Instr.sameNow]using h
      |_=>simp[yd]at h
    |_=>simp[eM]at hk
def RM(g:G)(w:World):List (D×V)→List MapEntry→Prop|[],[]=>True|(k,v)::es,x::xs=>(Rd w (da g w) k x.key∧RV g w v x.val)∧RM g w es xs|_,_=>False
theorem mo{kk:cB}{t:TypeId}{d:TypeDesc}{k:D}{kv:Value}(ht:gh P t kk)(hd:P.underlying t=some d)(hk:eM kk k=true)(h1:Rd w (da g w) k kv):∀{es:List (D×V)}{xs:List MapEntry}{i:Nat}{r:Option (Nat×V)},RM g w es xs→kz k es i=some r→(r=none∧Instr.findNow d kv xs i=some none)∨∃j v x,r=some (i+j,v)∧xs[j]? =some x∧Instr.findNow d kv xs i=some (some (i+j,x.val))∧RV g w v x.val∧Instr.sameNow d kv x.key=some true∧j<es.length
 |[],[],i,r,_,h=>by simp[kz]at h;subst h;exact .inl ⟨rfl,rfl⟩
 |(k2,v2)::es,x::xs,i,r,hm,h=>by
  simp only[RM]at hm;simp only[kz]at h;cases hb:yd k k2 with
   |none=>simp[hb]at h
   |some b=>
    have hs:=AL ht hd hk h1 hm.1.1 hb;cases b with
     |true=>simp[hb]at h;subst h;exact .inr ⟨0,v2,x,rfl,rfl,by simp[Instr.findNow,hs],hm.1.2,hs,by simp⟩
     |false=>
      simp only[hb]at h;rcases mo ht hd hk h1 hm.2 h with⟨e1,e2⟩|⟨j,v,y,e1,e2,e3,e4,e5,e6⟩
      ·exact .inl ⟨e1,by simp[Instr.findNow,hs,e2]⟩
      ·refine .inr ⟨j+1,v,y,by rw[e1];congr 2;omega,by simpa using e2,?_,e4,e5,by simp;omega⟩;simp only[Instr.findNow,hs,e3];congr 3;omega
 |[],_::_,_,_,h,_=>by simp only[RM]at h
 |_::_,[],_,_,h,_=>by simp only[RM]at h
theorem RM.of{es:List (D×V)}{bN:Array MapEntry}(hs:bN.size=es.length)(h:∀(i:Nat)(k:D)(v:V),es[i]? =some (k,v)→∃x,bN[i]? =some x∧Rd w (da g w) k x.key∧RV g w v x.val):RM g w es bN.toList:=by
 have hl:es.length=bN.toList.length:=by simp[hs]
 have h':∀(i:Nat)(k:D)(v:V),es[i]? =some (k,v)→∃x,bN.toList[i]? =some x∧Rd w (da g w) k x.key∧RV g w v x.val:=by intro i k v hi;obtain⟨x,hx,hr⟩:=h i k v hi;exact⟨x,by simpa using hx,hr⟩
 clear h hs;generalize bN.toList=xs at*;induction es generalizing xs with
  |nil=>
   cases xs with
    |nil=>simp only[RM]
    |cons=>simp at hl
  |cons e es ih=>
   obtain⟨k,v⟩:=e;cases xs with
    |nil=>simp at hl
    |cons x xs=>simp only[RM];obtain⟨y,hy,h1,h2⟩:=h' 0 k v rfl;simp at hy;subst hy;exact⟨⟨h1,h2⟩,ih xs (by simpa using hl) (fun i k v hi=>h' (i+1) k v (by simpa using hi))⟩
theorem sJ{t kt el:TypeId}{m k:Operand}{m' k':a_}{kk:cB}{z:V}{ok:Bool}{v:V}(ho:o.op=.lookup t m k ok)(ht:P.underlying t=some (.map kt el))(nI:gh P kt kk)(hz:FY P el=some z)(hm:au m=some m')(hk:au k=some k')(h:bu ρ H ns (.lookup kk z ok m' k')=some (v,none))(ev:Ev ρ a g w)(hh:av g w H):Good P a o g w ns v H:=by
 have I5:=ev _ _ hm;have Ge:=ev _ _ hk;simp only[FY,abb]at hz;obtain⟨zv,⟨i,hi,X7⟩,yq⟩:=hz;have PI:RV g w z zv:=F2 yq;simp only[bu]at h;split at h
 ·rename_i kd ek;cases Cd:eM kk kd with
   |false=>rw[Cd]at h;cases h
   |true=>
    rw[Cd]at h;simp only[aag]at h;split at h
    ·rename_i es wK;rw[ek]at Ge;simp only[RV]at Ge;have hd:∃d,P.underlying kt=some d:=by
      cases kk with
       |int=>obtain⟨q,hq⟩:=nI;exact⟨_,hq⟩
       |str=>exact⟨_,nI⟩
       |bool=>exact⟨_,nI⟩
     obtain⟨d,hd⟩:=hd;have Un:∃xs:Array MapEntry,RM g w es xs.toList∧((a.eval m=.map none∧xs= #[])∨∃r clock,a.eval m=.map (some r)∧w.heap[r]? =some (.map xs clock)):=by
      cases Uo:ρ m' with
       |kV=>rw[Uo]at I5 wK;simp only[RV]at I5;simp only[lS,aab]at wK;subst wK;exact⟨#[],by simp[RM],.inl ⟨I5,rfl⟩⟩
       |map b=>
        rw[Uo]at I5 wK;simp only[lS]at wK;split at wK
        ·rename_i OI hg;simp only[aab]at wK;subst wK;obtain⟨x,hx⟩:=hh.back b _ hg;obtain⟨_,y,hy,hr⟩:=hh.live b x hx;rw[hg]at hy;simp only[aab]at hy;subst hy;simp only[RV]at I5;obtain⟨aO,rfl,Jt⟩:=I5.2 x hx;simp only[RB]at hr;obtain⟨bN,clock,h1,h2,h3,h4,h5⟩:=hr;exact⟨bN,RM.of h2 (fun i k v hi=>by obtain⟨x,e1,e2,e3,e4⟩:=h3 i k v hi;exact⟨x,e1,e3,e4⟩),.inr ⟨aO,clock,Jt,h1⟩⟩
        ·cases wK
       |_=>rw[Uo]at wK;simp[lS]at wK
     obtain⟨xs,sI,F6⟩:=Un;have Mv:=fun b=>o3 (P:=P) (w:=w) nI b (a.eval k)
     split at h
     ·rename_i j u hf;simp only[aab,aae,acf]at h;rcases mo nI hd Cd Ge sI hf with⟨e1,_⟩|⟨j',v',x,e1,e2,e3,e4,_⟩
      ·cases e1
      ·simp only[aab,aae]at e1;obtain⟨_,rfl⟩:=e1;refine Good.val (x:=if ok then .tuple #[x.val,.bool true]else x.val) hh ?_ ?_
       ·rcases F6 with⟨q1,rfl⟩|⟨r,clock,q1,q2⟩
        ·simp[Instr.findNow]at e3
        ·simp[execOp,ho,Instr.lookup,run_underlying ht,q1,getObj,Sem.run,q2,Mv,Instr.findKey,run_underlying hd,e3]
       ·rw[←h];cases ok with
         |true=>simp only[aag,aa4,RV];exact⟨_,rfl,by simp only[aP];exact⟨e4,RV.Ds _,trivial⟩⟩
         |false=>simpa using e4
     ·rename_i hf;simp only[aab,aae,acf]at h;rcases mo nI hd Cd Ge sI hf with⟨_,e3⟩|⟨j',v',x,e1,_⟩
      ·refine Good.val (x:=if ok then .tuple #[zv,.bool false]else zv) hh ?_ ?_
       ·rcases F6 with⟨q1,rfl⟩|⟨r,clock,q1,q2⟩
        ·have Up:=Mv true;simp[execOp,ho,Instr.lookup,run_underlying ht,q1,Up,Instr.findKey,run_underlying hd,Instr.findNow,oZ hi X7]
        ·simp[execOp,ho,Instr.lookup,run_underlying ht,q1,getObj,Sem.run,q2,Mv,Instr.findKey,run_underlying hd,e3,oZ hi X7]
       ·rw[←h];cases ok with
         |true=>simp only[aag,aa4,RV];exact⟨_,rfl,by simp only[aP];exact⟨PI,RV.Ds _,trivial⟩⟩
         |false=>simpa using PI
      ·cases e1
     ·cases h
    ·cases h
 ·cases h
theorem nJ(w:World)(k:Nat)(x:Obj)(h:k<w.heap.size):({w with heap:=w.heap.setIfInBounds k x}:World).heap[k]? =some x:=by simp[h]
theorem mq(w:World)(k j:Nat)(x:Obj)(h:j≠k):({w with heap:=w.heap.setIfInBounds k x}:World).heap[j]? =w.heap[j]? :=by simp only[aaC (ack h)]
theorem yz{kk:cB}{t:TypeId}{d:TypeDesc}{kv xv:Value}(ht:gh P t kk)(hd:P.underlying t=some d)(h:Instr.sameNow d kv xv=some true):Instr.sameBits 10000 xv kv=true:=by
 have MA:(∃q,d=.int q)∨d=.string∨d=.bool:=by
  cases kk with
   |int=>obtain⟨k,hk⟩:=ht;rw[hd]at hk;simp only[aab]at hk;exact .inl ⟨k,hk⟩
   |str=>simp only[gh]at ht;rw[hd]at ht;simp only[aab]at ht;exact .inr (.inl ht)
   |bool=>simp only[gh]at ht;rw[hd]at ht;simp only[aab]at ht;exact .inr (.inr ht)
 rcases MA with⟨q,rfl⟩|rfl|rfl
 ·cases kv<;>cases xv<;>simp[Instr.sameNow]at h;obtain⟨rfl,rfl⟩:=h;simp[Instr.sameBits]
 ·cases kv<;>cases xv<;>simp[Instr.sameNow]at h;rename_i s t;have e:s=t:=by rw[wJ,fK]at h;exact ByteArray.ext (acS (by simpa using h))
  subst e;have e2:(s==s)=true:=by rw[wJ,fK];simp
  simpa[Instr.sameBits]using e2
 ·cases kv<;>cases xv<;>simp[Instr.sameNow]at h;subst h;simp[Instr.sameBits]
theorem sK{t kt el:TypeId}{m k x:Operand}{m' k' x':a_}{kk:cB}{v:V}{wr:Wr}(ho:o.op=.mapUpdate t m k x)(ht:P.underlying t=some (.map kt el))(nI:gh P kt kk)(hm:au m=some m')(hk:au k=some k')(hx:au x=some x')(h:bu ρ H ns (.fX kk m' k' x')=some (v,wr))(ev:Ev ρ a g w)(hh:av g w H):Good P a o g w ns v (aX H wr):=by
 have I5:=ev _ _ hm;have Ge:=ev _ _ hk;have cE:=ev _ _ hx;simp only[bu]at h;split at h
 ·rename_i b kd em ek;cases Cd:eM kk kd with
   |false=>rw[Cd]at h;cases h
   |true=>
    rw[Cd]at h;simp only[aag]at h;split at h
    ·rename_i es hg;rw[ek]at Ge;rw[em]at I5;simp only[RV]at Ge I5;have hd:∃d,P.underlying kt=some d:=by
      cases kk with
       |int=>obtain⟨q,hq⟩:=nI;exact⟨_,hq⟩
       |str=>exact⟨_,nI⟩
       |bool=>exact⟨_,nI⟩
     obtain⟨d,hd⟩:=hd;obtain⟨xb,nZ⟩:=hh.back b _ hg;obtain⟨_,y,hy,hr⟩:=hh.live b xb nZ;rw[hg]at hy;simp only[aab]at hy;subst hy;obtain⟨aO,rfl,Jt⟩:=I5.2 xb nZ;simp only[RB]at hr;obtain⟨bN,clock,h1,h2,h3,h4,h5⟩:=hr;have bL:aO<w.heap.size:=(abc.1 h1).1;have sI:RM g w es bN.toList:=RM.of h2 (fun i k v hi=>by obtain⟨x,e1,e2,e3,e4⟩:=h3 i k v hi;exact⟨x,e1,e3,e4⟩);have Mv:=fun b=>o3 (P:=P) (w:=w) nI b (a.eval k)
     have rC:∀o',ch g w g {w with heap:=w.heap.setIfInBounds aO o'}:=fun o'=>ch.write nZ rfl (hh.u5 nZ rfl) rfl rfl rfl (by simp) (fun j hj=>mq w aO j o' hj)
     split at h
     ·rename_i j u hf;simp only[aab,aae]at h;obtain⟨rfl,rfl⟩:=h;rcases mo nI hd Cd Ge sI hf with⟨e1,_⟩|⟨j',v',x0,e1,e2,e3,e4,e5,e6⟩
      ·cases e1
      ·simp only[aab,aae,aau]at e1;obtain⟨rfl,rfl⟩:=e1;rw[aau]at e3;have PJ:bN[j]? =some x0:=by simpa using e2
       have PK:=yz nI hd e5;refine⟨g,_,.skip,?_,.inr ⟨rfl,rfl⟩,?_,rC (.map (bN.modify j fun e=>{e with key:=a.eval k,val:=a.eval x}) clock),fun _ h=>.inl h⟩
       ·simp[execOp,ho,Instr.mapUpdate,run_underlying ht,Jt,getObj,setObj,Sem.run,h1,Mv,Instr.findKey,run_underlying hd,e3,PJ,Instr.keyThatStays,PK]
       ·refine av.write hh _ nZ rfl (rC _) (fun q hq=>mq w aO q _ hq) ?_;simp only[RB];refine⟨_,clock,nJ w aO _ bL,by simp[h2],fun i k2 v2 hi=>?_,?_ ⟩
        ·by_cases Ju:i=j
         ·subst Ju;rw[acK (by omega)]at hi;simp only[aab,aae]at hi;obtain⟨rfl,rfl⟩:=hi;refine⟨{x0 with key:=a.eval k,val:=a.eval x},by simp[abw,PJ],?_,Rd.keeps (rC _).keeps _ _ Ge,RV.ext (rC _) _ _ cE⟩;obtain⟨z,z1,z2,_⟩:=h3 i (es[i]'e6).1 (es[i]'e6).2 (aaf e6);rw[PJ]at z1;simp only[aab]at z1;subst z1;exact z2
         ·rw[List.getElem?_set_ne (by omega)]at hi;obtain⟨z,z1,z2,z3,z4⟩:=h3 i k2 v2 hi;exact⟨z,by simp[abw,ack Ju,z1],z2,Rd.keeps (rC _).keeps _ _ z3,RV.ext (rC _) _ _ z4⟩
        ·have PL:∀(i:Nat)(p:MapEntry),(bN.modify j fun e=>{e with key:=a.eval k,val:=a.eval x})[i]? =some p→∃q,bN[i]? =some q∧q.born=p.born:=by
          intro i p hp;rw[abw]at hp;split at hp
          ·rename_i Ju;subst Ju;rw[PJ]at hp;simp at hp;subst hp;exact⟨x0,PJ,rfl⟩
          ·exact⟨p,hp,rfl⟩
         refine⟨fun i p hp=>?_,by simp[h5]⟩;obtain⟨q,q1,q2⟩:=PL i p hp;rw[←q2];exact h4 i q q1
     ·rename_i hf;simp only[aab,aae]at h;obtain⟨rfl,rfl⟩:=h;rcases mo nI hd Cd Ge sI hf with⟨_,e3⟩|⟨j',v',x0,e1,_⟩
      ·refine⟨g,_,.skip,?_,.inr ⟨rfl,rfl⟩,?_,rC (.map (bN.push {key:=a.eval k,val:=a.eval x,born:=clock}) (clock+1)),fun _ h=>.inl h⟩
       ·simp[execOp,ho,Instr.mapUpdate,run_underlying ht,Jt,getObj,setObj,Sem.run,h1,Mv,Instr.findKey,run_underlying hd,e3]
       ·refine av.write hh _ nZ rfl (rC _) (fun q hq=>mq w aO q _ hq) ?_;simp only[RB];refine⟨_,clock+1,nJ w aO _ bL,by simp[h2],fun i k2 v2 hi=>?_,?_ ⟩
        ·by_cases Ju:i<es.length
         ·rw[aa2 Ju]at hi;obtain⟨z,z1,z2,z3,z4⟩:=h3 i k2 v2 hi;have MB:i<bN.size:=by omega
          exact⟨z,by rw[ab4,aal (by omega)];exact z1,by omega,Rd.keeps (rC _).keeps _ _ z3,RV.ext (rC _) _ _ z4⟩
         ·have Uq:i=es.length:=by have:=(aai.1 hi).1;simp at this;omega
          subst Uq;rw[aaS (aao _)]at hi;simp at hi;obtain⟨rfl,rfl⟩:=hi;exact⟨{key:=a.eval k,val:=a.eval x,born:=clock},by rw[ab4,aan h2.symm],by simp,Rd.keeps (rC _).keeps _ _ Ge,RV.ext (rC _) _ _ cE⟩
        ·refine⟨fun i p hp=>?_,by simp[h5]⟩;rw[ab4]at hp;split at hp
         ·rename_i hi;simp only[aab]at hp;subst hp;simp[h5,hi]
         ·exact h4 i p hp
      ·cases e1
     ·cases h
    ·cases h
 ·cases h
theorem u_{isMax:Bool}{k:IntKind}:∀{l:List V}{xs:List Value}{n r:Int},aP g w l xs→nY isMax n l k=some r→(xs.foldlM (if isMax then Builtin.max2 else Builtin.min2) (.int k n)).run P w=.ok (.int k r) w
 |[],[],n,r,_,h=>by simp[nY]at h;subst h;simp
 |v::l,x::xs,n,r,hv,h=>by
  simp only[aP]at hv;cases v with
   |d y=>
    cases y with
     |int k2 m=>
      simp only[nY]at h;split at h
      ·rename_i hk;subst hk;have hx:=RV.int hv.1;subst hx;have ih:=u_ hv.2 h;simp only[List.foldlM_cons,Sem.run_bind];cases isMax with
        |true=>simp only[aa4]at ih⊢;simp only[Builtin.max2,Sem.run_pure,Result.andThen_ok];have e:(if m>n then m else n)=(if n<m then m else n):=rfl;rw[e];exact ih
        |false=>simp only[aa8,abt]at ih⊢;simp only[Builtin.min2,Sem.run_pure,Result.andThen_ok];exact ih
      ·cases h
     |_=>simp[nY]at h
   |_=>simp[nY]at h
 |[],_::_,_,_,h,_=>by simp only[aP]at h
 |_::_,[],_,_,h,_=>by simp only[aP]at h
theorem yA{isMax:Bool}{args:Array Operand}{ts:Array TypeId}{l:List a_}{v:V}(ho:o.op=.call {callee:=.builtin (if isMax then .max else .min),args:=args,argTypes:=ts})(hl:bJ au args.toList=some l)(h:bu ρ H ns (.pV isMax l)=some (v,none))(ev:Ev ρ a g w)(hh:av g w H):Good P a o g w ns v H:=by
 have dI:=hY ev hl;simp only[bu]at h;split at h
 ·rename_i k n AN e;simp only[aad,aae,acf]at h;obtain⟨r,hr,rfl⟩:=h;rw[e]at dI;cases hx:args.toList.map a.eval with
   |nil=>rw[hx]at dI;simp only[aP]at dI
   |cons x xs=>
    rw[hx]at dI;simp only[aP]at dI;have Tv:=RV.int dI.1;subst Tv;have hf:=u_ (P:=P) dI.2 hr;have gJ:(args.map a.eval).toList=.int k n::xs:=by rw[acn,hx]
    refine Good.val hh ?_ (RV.AG k r);cases isMax with
     |true=>
      have e2:(Builtin.max_ ts o.type (args.map a.eval)).run P w=.ok (.int k r) w:=by simp only[Builtin.max_,gJ];exact hf
      simp[execOp,ho,resolve,invoke,builtin,e2]
     |false=>
      have e2:(Builtin.min_ ts o.type (args.map a.eval)).run P w=.ok (.int k r) w:=by simp only[Builtin.min_,gJ];exact hf
      simp[execOp,ho,resolve,invoke,builtin,e2]
 ·cases h
end
end Fw
/-
  Operations, further: structs held against structs, the bytes of a string, make.
-/
namespace Fw
open Go
section
variable {P:Program}{a:Act}{o:Oper}{g:G}{w:World}{ρ:a_→V}{H:ah}{ns:Nat}
theorem AP{t:TypeId}{k:cB}(h:wB P t=some k):gh P t k:=by
 unfold wB at h;split at h<;>simp only[aab,reduceCtorEq]at h<;>subst h
 ·rename_i q hq;exact⟨q,hq⟩
 ·rename_i hq;exact hq
 ·rename_i hq;exact hq
theorem uI{k:cB}{t:TypeId}{x y:D}{vx vy:Value}{im:Nat→Prop}{b:Bool}(ht:gh P t k)(hk:eM k x=true)(h:yd x y=some b)(h1:Rd w im x vx)(h2:Rd w im y vy)(d:Nat):(Op.equalIn (d+1) t vx vy).run P w=.ok b w:=by
 cases k with
  |int=>obtain⟨q,hq⟩:=ht;cases x<;>simp[eM]at hk;cases y<;>simp[yd]at h;obtain⟨rfl,rfl⟩:=h;simp only[Rd]at h1 h2;subst h1;subst h2;simp[Op.equalIn,run_underlying hq]
  |str=>simp only[gh]at ht;cases x<;>simp[eM]at hk;cases y<;>simp[yd]at h;simp only[Rd]at h1 h2;obtain⟨s1,rfl,rfl⟩:=h1;obtain⟨s2,rfl,rfl⟩:=h2;have:=wJ s1 s2;rw[h]at this;simp[Op.equalIn,run_underlying ht,this]
  |bool=>simp only[gh]at ht;cases x<;>simp[eM]at hk;cases y<;>simp[yd]at h;subst h;simp only[Rd]at h1 h2;subst h1;subst h2;simp[Op.equalIn,run_underlying ht]
theorem yB{t:TypeId}{k:cB}(h:gh P t k):(isAgg t).run P w=.ok false w:=by
 cases k with
  |int=>obtain⟨q,hq⟩:=h;simp[isAgg,run_underlying hq]
  |str=>simp only[gh]at h;simp[isAgg,run_underlying h]
  |bool=>simp only[gh]at h;simp[isAgg,run_underlying h]
theorem qV(d:Nat){xs ys:Array Value}:∀{fs:List Field}{n:Nat}{ks:List cB}{us vs:List V}{b:Bool},ij P n fs=some ks→jk ks us vs=some b→aP g w us (xs.toList.drop n)→aP g w vs (ys.toList.drop n)→(Op.eqFields (d+1) xs ys fs).run P w=.ok b w
 |[],n,ks,us,vs,b,h1,h2,_,_=>by simp only[ij,aab]at h1;subst h1;cases us<;>cases vs<;>simp[jk]at h2;subst h2;simp[Op.eqFields]
 |f::fs,n,ks,us,vs,b,h1,h2,h3,h4=>by
  simp only[ij]at h1;split at h1
  ·rename_i hc;split at h1
   ·rename_i k ks' hk Gf;simp only[aab]at h1;subst h1;cases us with
     |nil=>simp[jk]at h2
     |cons u us=>
      obtain⟨x,rfl⟩:∃x,u=.d x:=by cases u<;>first|exact⟨_,rfl⟩|simp[jk]at h2
      cases vs with
       |nil=>simp[jk]at h2
       |cons v vs=>
        obtain⟨y,rfl⟩:∃y,v=.d y:=by cases v<;>first|exact⟨_,rfl⟩|simp[jk]at h2
        simp only[jk]at h2;cases Cd:eM k x with
         |false=>rw[Cd]at h2;cases h2
         |true=>
          rw[Cd]at h2;simp only[aag]at h2;have nI:=AP hk;have cell:∀(zs:Array Value)(z:D)(ws:List V),aP g w (.d z::ws) (zs.toList.drop n)→∃c,zs[n]? =some c∧Rd w (da g w) z c∧aP g w ws (zs.toList.drop (n+1)):=by
           intro zs z ws h;cases hd:zs.toList.drop n with
            |nil=>rw[hd]at h;simp only[aP]at h
            |cons c cs=>
             rw[hd]at h;simp only[aP,RV]at h;refine⟨c,?_,h.1,?_⟩
             ·have:(zs.toList.drop n)[0]? =some c:=by rw[hd];rfl
              rw[aa7]at this;simpa using this
             ·have:zs.toList.drop (n+1)=cs:=by rw[←abQ,hd];rfl
              rw[this];exact h.2
          obtain⟨c1,a1,a2,a3⟩:=cell xs x us h3;obtain⟨c2,b1,b2,b3⟩:=cell ys y vs h4;have nK:=yB (P:=P) (w:=w) nI;have p1:(part f.type xs f.offset).run P w=.ok c1 w:=by rw[hc.1];simp[part,nK,a1]
          have p2:(part f.type ys f.offset).run P w=.ok c2 w:=by rw[hc.1];simp[part,nK,b1]
          simp only[Op.eqFields,hc.2,ne_eq,not_false_eq_true,aa4,Sem.run_bind,p1,p2,Result.andThen_ok];cases Ur:yd x y with
           |none=>rw[Ur]at h2;cases h2
           |some r=>
            rw[uI nI Cd Ur a2 b2 d];rw[Ur]at h2;cases r with
             |true=>simp only at h2;simp only[Result.andThen_ok,aa',aa8,abt];exact qV d Gf h2 a3 b3
             |false=>simp only[aab]at h2;subst h2;simp
   ·cases h1
  ·cases h1
theorem Ll{op:BinOp}{t yt:TypeId}{x y:Operand}{x' y':a_}{ks:List cB}{us vs:List V}{b neg:Bool}(ho:o.op=.binOp op t x y yt)(ei:(op=.eql∧neg=false)∨(op=.neq∧neg=true))(hp:jQ P t=some ks)(hx:au x=some x')(hy:au y=some y')(e1:ρ x'=.agg us)(e2:ρ y'=.agg vs)(h:jk ks us vs=some b)(ev:Ev ρ a g w)(hh:av g w H):Good P a o g w ns (.d (.bool (bif neg then !b else b))) H:=by
 have cE:=ev _ _ hx;have dM:=ev _ _ hy;rw[e1]at cE;rw[e2]at dM;simp only[RV]at cE dM;obtain⟨xs,f1,r1⟩:=cE;obtain⟨ys,f2,r2⟩:=dM;unfold jQ at hp;split at hp
 ·rename_i fs hu;split at hp
  ·rename_i hc;have B9:P.fieldsOf t=fs:=by simp[Program.fieldsOf,hu]
   have key:∀d,(Op.equalIn (d+2) t (.agg xs) (.agg ys)).run P w=.ok b w:=by intro d;rw[run_equalIn_struct w (d+1) t xs ys (by rw[B9];exact hu) hc.1,B9];exact qV d hp h (by simpa using r1) (by simpa using r2)
   have heq:(Op.equal t (.agg xs) (.agg ys)).run P w=.ok b w:=key 9998;have lh:(eqGuard op t x y (.agg xs) (.agg ys)).run P w=.ok () w:=run_eqGuard_agg w op t x y xs ys hc.2;refine Good.val (x:=.bool (bif neg then !b else b)) hh ?_ (RV.Ds _);rcases ei with⟨rfl,rfl⟩|⟨rfl,rfl⟩<;>simp[execOp,ho,f1,f2,lh,binOp,heq]
  ·cases hp
 ·cases hp
theorem o4{w:World}{b o n k:Nat}(h:k≠b):(w.freeze ⟨b,o,none⟩ n).heap[k]? =w.heap[k]? :=by
 unfold World.freeze;split
 ·rfl
 ·simp only[abw];rw[aal (by omega)]
theorem mr{w:World}{a:Addr}{n:Nat}:(w.freeze a n).heap.size=w.heap.size:=by unfold World.freeze;split<;>simp
theorem ch.DD{g:G}{w:World}{H:ah}(hh:av g w H)(o:Obj)(q n:Nat):ch g w g ((w.alloc o).freeze ⟨w.heap.size,q,none⟩ n):=by
 have hk:∀k,k<w.heap.size→((w.alloc o).freeze ⟨w.heap.size,q,none⟩ n).heap[k]? =w.heap[k]? :=by intro k hk;rw[o4 (by omega),cL _ _ hk]
 have h1:∀(w':World)(a:Addr),(w'.freeze a n).os=w'.os∧(w'.freeze a n).tape=w'.tape∧(w'.freeze a n).output=w'.output:=by intro w' a;unfold World.freeze;split<;>exact⟨rfl,rfl,rfl⟩
 obtain⟨e1,e2,e3⟩:=h1 (w.alloc o) ⟨w.heap.size,q,none⟩;refine⟨e1,e2,e3,by rw[mr];simp,fun k va=>⟨⟨by rw[mr];have:=va.1;simp;omega,va.2⟩,hk k va.1⟩,fun _ h=>h,fun _ _=>GB.step.refl _,rfl,fun k va=>hk k (hh.fo k va).1⟩
theorem run_mark(c:Array Value)(e:TypeId)(w:World):(markStringish ⟨w.heap.size,0,none⟩).run P (w.alloc (.cells c e))=.ok () ((w.alloc (.cells c e)).freeze ⟨w.heap.size,c.size,none⟩ 1):=by
 have h:(w.alloc (.cells c e)).shape? w.heap.size=some (e,c.size):=by unfold World.shape?;rw[bS]
 simp only[markStringish,Sem.run_bind,run_shape,h,Result.andThen_ok,run_freeze]
theorem AQ{s d e:TypeId}{x:Operand}{x':a_}{l:List UInt8}(ho:o.op=.convert s d x)(hs:P.underlying s=some .string)(hd:P.underlying d=some (.slice e))(he:P.underlying e=some (.int .u8))(hx:au x=some x')(ex:ρ x'=.d (.str l))(ev:Ev ρ a g w)(hh:av g w H):Good P a o g w ns (.d (.list (l.map fun b=>[.int .u8 b.toNat]))) H:=by
 have hv:=ev _ _ hx;rw[ex]at hv;obtain⟨b,hb,rfl⟩:=RV.str hv;have ey:∃(cap:Nat)(fz:Nat),b.size≤cap∧(execOp a.eval o).run P w=.ok (.value (.slice (some ⟨w.heap.size,0,none⟩) b.size cap)) ((w.drew.alloc (.cells ((b.data.map fun x=>(Value.int .u8 x.toNat))++Array.replicate (cap - b.size) (.int .u8 0)) e)).freeze ⟨w.heap.size,fz,none⟩ 1):=by
  have hm:=run_mark (P:=P) ((b.data.map fun(x:UInt8)=>(Value.int .u8 x.toNat))++Array.replicate ((Question.appendCap b.size 0 e).cut (w.tape w.drawn (.appendCap b.size 0 e)) - b.size) (Value.int .u8 0)) e w.drew;refine⟨(Question.appendCap b.size 0 e).cut (w.tape w.drawn (.appendCap b.size 0 e)),((b.data.map fun(x:UInt8)=>(Value.int .u8 x.toNat))++Array.replicate ((Question.appendCap b.size 0 e).cut (w.tape w.drawn (.appendCap b.size 0 e)) - b.size) (Value.int .u8 0)).size,?_,?_⟩
  ·simp[Question.cut]
  ·have Gg:w.drew.heap.size=w.heap.size:=rfl;rw[Gg]at hm;simp only[execOp,ho,hb,convert,Sem.run_bind,run_underlying hs,run_underlying hd,run_underlying he,Result.andThen_ok,Conv.stringToBytes,run_choose,Question.forced,newRow,run_newObj,Sem.run_pure,aa8,abt];erw [hm];rfl
 obtain⟨cap,fz,Gh,hr⟩:=ey;have Zh:=hh.drew;have rV:=ch.DD (w:=w.drew) Zh (.cells ((b.data.map fun x=>(Value.int .u8 x.toNat))++Array.replicate (cap - b.size) (.int .u8 0)) e) fz 1;have yC:=(jU g w).trans rV;have jt:∀c y k,g.γ c=some y→y.own=some k→((w.drew.alloc (.cells ((b.data.map fun x=>(Value.int .u8 x.toNat))++Array.replicate (cap - b.size) (.int .u8 0)) e)).freeze ⟨w.heap.size,fz,none⟩ 1).heap[k]? =w.heap[k]? :=by intro c y k hy hk;obtain⟨_,z,_,h3⟩:=hh.live c y hy;have:=h3.lt k hk;rw[o4 (by omega)];exact cL w.drew _ this
 refine⟨g,_,_,hr,.inl ⟨_,rfl,?_⟩,hh.ext yC jt,yC,fun _ h=>.inl h⟩;have PM:∀j,j<b.size→((w.drew.alloc (.cells ((b.data.map fun x=>(Value.int .u8 x.toNat))++Array.replicate (cap - b.size) (.int .u8 0)) e)).freeze ⟨w.heap.size,fz,none⟩ 1).cell? ⟨w.heap.size,j,none⟩=(b.data.toList[j]? ).map fun x=>Value.int .u8 x.toNat:=by
  intro j hj;have bL:w.drew.heap.size<(w.drew.alloc (.cells ((b.data.map fun x=>(Value.int .u8 x.toNat))++Array.replicate (cap - b.size) (.int .u8 0)) e)).heap.size:=by simp
  have Us:=bS w.drew (.cells ((b.data.map fun x=>(Value.int .u8 x.toNat))++Array.replicate (cap - b.size) (.int .u8 0)) e);have Ut:∃fr,((w.drew.alloc (.cells ((b.data.map fun x=>(Value.int .u8 x.toNat))++Array.replicate (cap - b.size) (.int .u8 0)) e)).freeze ⟨w.heap.size,fz,none⟩ 1).heap[w.heap.size]? =some (.cells ((b.data.map fun x=>(Value.int .u8 x.toNat))++Array.replicate (cap - b.size) (.int .u8 0)) e fr):=by unfold World.freeze;rw[aal (by omega)];simp only[abw,aa4];have:w.drew.heap.size=w.heap.size:=rfl;rw[←this,Us];simp
  obtain⟨fr,Ut⟩:=Ut;simp only[World.cell?,Ut];have rW:j<b.data.size:=hj;rw[abY (by simpa using rW)];simp
 simp only[RV,Rd];refine .inr ⟨w.heap.size,0,cap,1,by simp,by simpa using Gh,fun _=>⟨by rw[mr];simp,fun hf=>by have:=(hh.fo _ hf).1;omega,fun c y hy hk=>?_ ⟩,iG.iH fun i e' Tw=>?_ ⟩
 ·obtain⟨_,z,_,h3⟩:=hh.live c y hy;have:=h3.lt _ hk;omega
 ·simp only[aaO,aad]at Tw;obtain⟨c,hc,rfl⟩:=Tw;have hi:i<b.size:=by have:=(aai.1 hc).1;simpa using this
  refine⟨rfl,?_⟩;simp only[dh,acf,aau,Nat.mul_one];refine⟨.int .u8 c.toNat,?_,by simp only[Rd]⟩;rw[PM i hi,hc];rfl
theorem wrap_small{n:Nat}(h:n≤cq):IntKind.i64.wrap (n:Int)=n:=by
 have h2:cq=1099511627776:=by decide
 unfold IntKind.wrap;have e1:(2:Int)^IntKind.i64.bits=18446744073709551616:=by decide
 have e2:(2:Int)^(IntKind.i64.bits - 1)=9223372036854775808:=by decide
 rw[e1,e2];have:(n:Int)%18446744073709551616=n:=Int.emod_eq_of_lt (by omega) (by omega);rw[this];have:¬((n:Int)≥9223372036854775808):=by omega
 simp[this]
theorem Jv{t e:TypeId}{i:TypeInfo}{zs:List V}{l c:Operand}{l' c':a_}{v:V}{wr:Wr}(ho:o.op=.makeSlice t l c)(ht:P.underlying t=some (.slice e))(hi:P.info? e=some i)(hz:dF P e=some zs)(hl:au l=some l')(hc:au c=some c')(h:bu ρ H ns (.yp i.size i.bytes zs l' c')=some (v,wr))(ev:Ev ρ a g w)(hh:av g w H)(jo:jn g ns):Good P a o g w ns v (aX H wr):=by
 simp only[dF,abb]at hz;obtain⟨zv,⟨i2,lj,yq⟩,hm⟩:=hz;rw[hi]at lj;simp only[aab]at lj;subst lj;obtain⟨hv,eF⟩:=jr (g:=g) (w:=w) hm;simp only[bu]at h;split at h
 ·rename_i ln cn el ec;cases hb:(Nat.ble ln cn&&Nat.ble (cn*(i.bytes+1)) cq&&Nat.ble cn cq&&zs.all dE&&Nat.beq zs.length i.size&&Nat.blt 0 i.size)with
   |false=>rw[hb]at h;cases h
   |true=>
    rw[hb]at h;simp only[aag,aab,aae]at h;obtain⟨rfl,rfl⟩:=h;simp only[aac]at hb;have b1:=aak hb.1.1.1.1.1;have b2:=aak hb.1.1.1.1.2;have b3:=aak hb.1.1.1.2;have b4:=aah hb.1.2;have b5:0<i.size:=by have:=hb.2;rwa[aas]at this
    have wL:cq=1099511627776:=by decide
    obtain⟨kl,Tx⟩:=gg el (ev _ _ hl);obtain⟨kc,X8⟩:=gg ec (ev _ _ hc);have Lj:zv.cells.size=i.size:=by have:=hv.length;simp at this;omega
    have w1:=wrap_small (n:=ln) (by omega);have w2:=wrap_small (n:=cn) b3;have Uu:i.bytes*cn≤1099511627776:=by have:cn*i.bytes≤cn*(i.bytes+1):=Nat.mul_le_mul_left _ (by omega);rw[Nat.mul_comm];omega
    have Uv:¬((cn:Int)<0):=by omega
    have ey:(execOp a.eval o).run P w=.ok (.value (.slice (some ⟨w.heap.size,0,none⟩) ln cn)) (w.alloc (.cells ((Array.range (cn*i.size)).map (zv.cells[·%zv.cells.size]! )) e)):=by
     have DE:¬((ln:Int)<0):=by omega
     have hlc:¬((ln:Int)>(cn:Int)):=by omega
     by_cases My:cn=0
     ·subst My;have:ln=0:=by omega
      subst this;have w0:IntKind.i64.wrap 0=0:=by decide
      simp[execOp,ho,Instr.makeSlice,run_underlying ht,Tx,X8,asInt,asIntOf,typeInfo,hi,w0,Go.sizeOf,newRow,show Array.range 0= #[]from rfl]
     ·have Ud:¬(cn=0∨i.size=0):=by omega
      have MC:¬(281474976710656<(i.bytes:Int)*(cn:Int)):=by rw[←Int.natCast_mul];omega
      have Uw:¬(cn*i.size=0):=by rw[abW];omega
      have Ux:¬((cn:Int)<(ln:Int)):=by omega
      simp[execOp,ho,Instr.makeSlice,run_underlying ht,Tx,X8,asInt,asIntOf,typeInfo,hi,w1,w2,MC,DE,Ux,Uv,Go.sizeOf,Ud,Uw,zeroValue,yq,newRow]
    have Zi:=jo;let g':=g.add ns (.cells w.heap.size (cn*i.size) (ln*i.size));have he:=ch.new hh jo (.cells ((Array.range (cn*i.size)).map (zv.cells[·%zv.cells.size]! )) e) (.cells w.heap.size (cn*i.size) (ln*i.size)) rfl;have hle:ln*i.size≤cn*i.size:=aaM _ b1;refine⟨g',_,_,ey,.inl ⟨_,rfl,?_⟩,av.new hh jo _ _ _ rfl ?_,he,fun _ h=>h⟩
    ·exact RV.AJ (cp:=cn*i.size) (.inr rfl) (by simp[g',G.add]) b1 (by omega)
    ·simp only[RB];have AR:((List.range (ln*i.size)).map fun j=>zs.getD (j%i.size) .any).all dE=true:=by simp only[aaq,aaG,aaJ];rintro x ⟨j,_,rfl⟩;have:=ab0 j b5;rw[aaD,aaf (by omega)];exact(aaq.1 eF) _ (abg _)
     refine⟨by simp,AR,by simpa using hle,_,e,bS _ _,by simp,?_ ⟩;refine aP.ext he _ _ (aP.iH (by simp[abX hle]) fun j u x hu hx=>?_ );simp only[aar,acI]at hx;rw[aaL]at hx;split at hx
     ·rename_i hj;rw[sH _ (by omega)]at hx;have rW:j<cn*i.size:=by omega
      rw[aan rW,Lj]at hx;simp[hj]at hu;subst hu;have Tq:=ab0 j b5;have hg:zs[j%i.size]? =some (zs[j%i.size]'(by omega)):=aaf _;rw[hg,aaN];obtain⟨v',h5,h6⟩:=aP.get (j%i.size) hv hg;simp at h5 hx;rw[hx]at h5;simp only[aab]at h5;subst h5;exact h6
     ·cases hx
 ·cases h
theorem PN{t e:TypeId}{x:Operand}{x':a_}{v:V}{wr:Wr}(ho:o.op=.call {callee:=.builtin .cap,args:= #[x],argTypes:= #[t]})(ht:P.underlying t=some (.slice e))(hx:au x=some x')(h:bu ρ H ns (.cap x')=some (v,wr))(ev:Ev ρ a g w)(hh:av g w H):Good P a o g w ns v (aX H wr):=by
 have cE:=ev _ _ hx;simp only[bu]at h;split at h
 ·rename_i e1;rw[e1]at cE;simp only[RV]at cE;simp only[aab,aae]at h;obtain⟨rfl,rfl⟩:=h;refine Good.val (x:=.int .i64 0) hh ?_ (RV.AG _ _);simp[execOp,ho,resolve,invoke,builtin,Builtin.cap_,run_underlying ht,cE,goInt]
 ·cases h
theorem DF{t u e:TypeId}{k:IntKind}{i:TypeInfo}{zs:List V}{x y:Operand}{x' y':a_}{v:V}{wr:Wr}(ho:o.op=.call {callee:=.builtin .append,args:= #[x,y],argTypes:= #[t,u]})(ht:P.underlying t=some (.slice e))(hu:P.underlying u=some (.int k))(hi:P.info? e=some i)(hz:dF P e=some zs)(hx:au x=some x')(hy:au y=some y')(h:bu ρ H ns (.kZ i.size i.bytes zs x' y')=some (v,wr))(ev:Ev ρ a g w)(hh:av g w H)(jo:jn g ns):Good P a o g w ns v (aX H wr):=by
 simp only[dF,abb]at hz;obtain⟨zv,⟨i2,lj,yq⟩,hm⟩:=hz;rw[hi]at lj;simp only[aab]at lj;subst lj;obtain⟨hv,eF⟩:=jr (g:=g) (w:=w) hm;have cE:=ev _ _ hx;simp only[bu]at h;split at h
 ·rename_i n e1 en;rw[e1]at cE;simp only[RV]at cE;cases hb:(Nat.blt 0 n&&Nat.ble (n*(i.bytes+1)) cq&&Nat.ble n cq&&zs.all dE&&Nat.beq zs.length i.size&&Nat.blt 0 i.size)with
   |false=>rw[hb]at h;cases h
   |true=>
    rw[hb]at h;simp only[aag,aab,aae]at h;obtain⟨rfl,rfl⟩:=h;simp only[aac]at hb;have b0:0<n:=by have:=hb.1.1.1.1.1;rwa[aas]at this
    have b2:=aak hb.1.1.1.1.2;have b3:=aak hb.1.1.1.2;have b4:=aah hb.1.2;have b5:0<i.size:=by have:=hb.2;rwa[aas]at this
    have wL:cq=1099511627776:=by decide
    obtain⟨kn,Zj⟩:=gg en (ev _ _ hy);have Lj:zv.cells.size=i.size:=by have:=hv.length;simp at this;omega
    have w1:=wrap_small (n:=n) b3;have Uu:n*i.bytes≤1099511627776:=by have:n*i.bytes≤n*(i.bytes+1):=Nat.mul_le_mul_left _ (by omega);omega
    have DE:¬((n:Int)<0):=by omega
    have MC:¬(281474976710656<(n:Int)*(i.bytes:Int)):=by rw[←Int.natCast_mul];omega
    have Uw:¬(n*i.size=0):=by rw[abW];omega
    have My:¬(n=0∨i.size=0):=by omega
    have Uy:¬n=0:=by omega
    have Uh:¬(9223372036854775807<(n:Int)):=by omega
    have Zk:Builtin.nextslicecap n 0=n:=by simp[Builtin.nextslicecap,b0]
    have Mw:¬(281474976710656<n*i.bytes):=by omega
    have ey:(execOp a.eval o).run P w=.ok (.value (.slice (some ⟨w.heap.size,0,none⟩) n (grownCap w n 0 e))) (w.drew.alloc (.cells (Builtin.zeroCells zv.cells n++Builtin.zeroCells zv.cells (grownCap w n 0 e - n)) e)):=by simp[execOp,ho,resolve,invoke,builtin,Builtin.append_,run_underlying ht,run_underlying hu,cE,Zj,asInt,asIntOf,w1,DE,MC,Uw,My,Uy,Uh,Zk,Mw,Go.sizeOf,typeInfo,zeroValue,hi,yq,Question.forced,Builtin.firstCells,newRow,grownCap]
    have OK:=grownCap_ge w n 0 e;have cx:(Builtin.zeroCells zv.cells n++Builtin.zeroCells zv.cells (grownCap w n 0 e - n)).size=grownCap w n 0 e*i.size:=by simp only[Array.size_append,size_zeroCells,Lj,←aa3];congr 1;omega
    have hle:n*i.size≤grownCap w n 0 e*i.size:=aaM _ OK;let g':=g.add ns (.cells w.heap.size (grownCap w n 0 e*i.size) (n*i.size));have hd:=jU g w;have he:=ch.new hh.drew jo (.cells (Builtin.zeroCells zv.cells n++Builtin.zeroCells zv.cells (grownCap w n 0 e - n)) e) (.cells w.heap.size (grownCap w n 0 e*i.size) (n*i.size)) rfl;refine⟨g',_,_,ey,.inl ⟨_,rfl,?_⟩,av.new hh.drew jo _ _ _ rfl ?_,hd.trans he,fun _ h=>h⟩
    ·exact RV.AJ (cp:=grownCap w n 0 e*i.size) (.inr rfl) (by simp[g',G.add]) OK (by omega)
    ·simp only[RB];have AR:((List.range (n*i.size)).map fun j=>zs.getD (j%i.size) .any).all dE=true:=by simp only[aaq,aaG,aaJ];rintro x ⟨j,_,rfl⟩;have:=ab0 j b5;rw[aaD,aaf (by omega)];exact(aaq.1 eF) _ (abg _)
     refine⟨by simp,AR,by simpa using hle,_,e,bS _ _,by rw[cx];exact aao _,?_ ⟩;refine aP.ext he _ _ (aP.ext hd _ _ (aP.iH ?_ fun j u x hu hx=>?_ ))
     ·simp only[aar,acI,aaQ,Array.length_toList,cx];omega
     ·simp only[aar,acI]at hx;rw[aaL]at hx;split at hx
      ·rename_i hj;simp[hj]at hu;subst hu;have Zl:j<(Builtin.zeroCells zv.cells n).size:=by rw[size_zeroCells,Lj];exact hj
       have wM:(Builtin.zeroCells zv.cells n)[j]? =some x:=by rw[abD,aa2 (by simpa using Zl)]at hx;simpa using hx
       have MD:((Array.range (n*i.size)).map (zv.cells[·%zv.cells.size]! )).toList[j]? =some x:=by
        have:Builtin.zeroCells zv.cells n=(Array.range (n*i.size)).map (zv.cells[·%zv.cells.size]! ):=by simp only[Builtin.zeroCells,Lj]
        rw[←this];simpa using wM
       rw[sH _ (by omega),aan hj,Lj]at MD;have Tq:=ab0 j b5;have hg:zs[j%i.size]? =some (zs[j%i.size]'(by omega)):=aaf _;rw[hg,aaN];obtain⟨v',h5,h6⟩:=aP.get (j%i.size) hv hg;simp at h5 MD;rw[MD]at h5;simp only[aab]at h5;subst h5;exact h6
      ·cases hx
 ·cases h
end
end Fw
/-
  Every operation that calls nothing.
-/
namespace Fw
open Go
section
variable {P:Program}{a:Act}{o:Oper}{g:G}{w:World}{ρ:a_→V}{H:ah}{ns:Nat}
theorem Ce{t:TypeId}{x:Operand}{x':a_}{k:kW}{v:V}{c:Call}(ho:o.op=.call c)(hc:c.callee=.builtin .len)(gJ:c.args.toList=[x])(yD:c.argTypes.toList=[t])(hx:au x=some x')(hk:Gb P t k∨∃n e,k=.arr n∧P.underlying t=some (.array n e)){wr:Wr}(h:bu ρ H ns (.len k x')=some (v,wr))(ev:Ev ρ a g w)(hh:av g w H):Good P a o g w ns v (aX H wr):=by
 obtain⟨callee,args,ts⟩:=c;have e1:args= #[x]:=abh.1 (by simpa using gJ);have e2:ts= #[t]:=abh.1 (by simpa using yD);simp only at hc;subst hc;subst e1;subst e2;have DC:∀n:Int,(Builtin.len_ #[t] o.type #[a.eval x]).run P w=.ok (goInt n) w→(execOp a.eval o).run P w=.ok (.value (goInt n)) w:=by intro n hn;simp[execOp,ho,resolve,invoke,builtin,hn]
 have fin:∀n:Nat,(Builtin.len_ #[t] o.type #[a.eval x]).run P w=.ok (goInt n) w→Good P a o g w ns (.d (.int .i64 n)) H:=fun n hn=>Good.val hh (DC _ hn) (RV.AG _ _)
 rcases hk with hk|⟨n,e,rfl,hn⟩
 ·cases k with
   |arr=>exact hk.elim
   |str=>
    simp only[bu]at h;split at h
    ·rename_i n hn;simp only[aab,aae]at h;obtain⟨rfl,rfl⟩:=h;exact fin n (wE hn (ev _ _ hx) hh hk)
    ·cases h
   |slice=>
    simp only[bu]at h;split at h
    ·rename_i n hn;simp only[aab,aae]at h;obtain⟨rfl,rfl⟩:=h;exact fin n (wE hn (ev _ _ hx) hh hk)
    ·cases h
   |map=>
    simp only[bu]at h;split at h
    ·rename_i n hn;simp only[aab,aae]at h;obtain⟨rfl,rfl⟩:=h;exact fin n (wE hn (ev _ _ hx) hh hk)
    ·cases h
 ·simp only[bu,aab,aae]at h;obtain⟨rfl,rfl⟩:=h;exact fin n (by simp[Builtin.len_,run_underlying hn])
theorem Gi{c:Call}{io:ki}{v:V}{wr:Wr}(ho:o.op=.call c)(hc:dH P c=some io)(he:bu ρ H ns io=some (v,wr))(ev:Ev ρ a g w)(hh:av g w H)(jo:jn g ns):Good P a o g w ns v (aX H wr):=by
 unfold dH at hc;split at hc
 ·rename_i eT;split at hc
  ·rename_i x t gJ yD;split at hc
   ·rename_i hu;simp only[aad]at hc;obtain⟨x',hx,rfl⟩:=hc;exact Ce (k:=.str) ho eT gJ yD hx (.inl hu) he ev hh
   ·rename_i e hu;simp only[aad]at hc;obtain⟨x',hx,rfl⟩:=hc;exact Ce (k:=.slice) ho eT gJ yD hx (.inl ⟨e,hu⟩) he ev hh
   ·rename_i k e hu;simp only[aad]at hc;obtain⟨x',hx,rfl⟩:=hc;exact Ce (k:=.map) ho eT gJ yD hx (.inl ⟨k,e,hu⟩) he ev hh
   ·rename_i n e hu;simp only[aad]at hc;obtain⟨x',hx,rfl⟩:=hc;exact Ce ho eT gJ yD hx (.inr ⟨n,e,rfl,hu⟩) he ev hh
   ·cases hc
  ·cases hc
 ·rename_i eT;split at hc
  ·rename_i x y t u gJ yD;split at hc
   ·rename_i e k hu FK;split at hc
    ·rename_i i z x' y' hi hz hx hy;simp only[aab]at hc;subst hc;obtain⟨callee,args,ts⟩:=c;have e1:args= #[x,y]:=abh.1 (by simpa using gJ);have e2:ts= #[t,u]:=abh.1 (by simpa using yD);simp only at eT;subst eT;subst e1;subst e2;exact DF ho hu FK hi hz hx hy he ev hh jo
    ·cases hc
   ·rename_i e d X9 hu FK;split at hc
    ·rename_i i z x' y' hd hi hz hx hy;split at hc
     ·rename_i gI;simp only[aab]at hc;subst hc;simp only[bu]at he;split at he
      ·rename_i xs F6;obtain⟨callee,args,ts⟩:=c;have e1:args= #[x,y]:=abh.1 (by simpa using gJ);have e2:ts= #[t,u]:=abh.1 (by simpa using yD);simp only at eT;subst eT;subst e1;subst e2;refine Gc ho rfl hu ?_ hi hz gI.1 gI.2 hx hy F6 he ev hh jo;cases d<;>simp[Pt]at hd
       ·exact .inr FK
       ·exact .inl ⟨_,FK⟩
      ·cases he
     ·cases hc
    ·cases hc
   ·cases hc
  ·cases hc
 ·rename_i eT;split at hc
  ·rename_i x t gJ yD;split at hc
   ·rename_i e hu;simp only[aad]at hc;obtain⟨x',hx,rfl⟩:=hc;obtain⟨callee,args,ts⟩:=c;have e1:args= #[x]:=abh.1 (by simpa using gJ);have e2:ts= #[t]:=abh.1 (by simpa using yD);simp only at eT;subst eT;subst e1;subst e2;exact PN ho hu hx he ev hh
   ·cases hc
  ·cases hc
 ·rename_i eT;simp only[aad]at hc;obtain⟨l,hl,rfl⟩:=hc;have hH:wr=none:=by
   simp only[bu]at he;split at he
   ·simp only[aad,aae]at he;obtain⟨_,_,_,h⟩:=he;exact h.symm
   ·cases he
  subst hH;obtain⟨callee,args,ts⟩:=c;simp only at eT;subst eT;exact yA (isMax:=false) ho hl he ev hh
 ·rename_i eT;simp only[aad]at hc;obtain⟨l,hl,rfl⟩:=hc;have hH:wr=none:=by
   simp only[bu]at he;split at he
   ·simp only[aad,aae]at he;obtain⟨_,_,_,h⟩:=he;exact h.symm
   ·cases he
  subst hH;obtain⟨callee,args,ts⟩:=c;simp only at eT;subst eT;exact yA (isMax:=true) ho hl he ev hh
 ·split at hc
  ·simp only[aad]at hc;obtain⟨l,hl,rfl⟩:=hc;simp[bu]at he
  ·cases hc
 ·simp only[aad]at hc;obtain⟨l,hl,rfl⟩:=hc;simp[bu]at he
 ·cases hc
theorem sL{io:ki}{v:V}{wr:Wr}(hc:bD P o.op=some io)(he:bu ρ H ns io=some (v,wr))(ev:Ev ρ a g w)(hh:av g w H)(jo:jn g ns):Good P a o g w ns v (aX H wr):=by
 unfold bD at hc;split at hc
 ·rename_i x ho;simp only[aad]at hc;obtain⟨x',hx,rfl⟩:=hc;simp only[bu,aab,aae]at he;obtain⟨rfl,rfl⟩:=he;exact Pu (.inl ho) hx ev hh
 ·rename_i x ho;simp only[aad]at hc;obtain⟨x',hx,rfl⟩:=hc;simp only[bu,aab,aae]at he;obtain⟨rfl,rfl⟩:=he;exact Pu (.inr ho) hx ev hh
 ·rename_i c x y ho;split at hc
  ·rename_i c' x' y' h1 h2 h3;simp only[aab]at hc;subst hc;simp only[bu]at he;split at he
   ·rename_i b hb;simp only[aab,aae]at he;obtain⟨rfl,rfl⟩:=he;exact Mo ho h1 h2 h3 hb ev hh
   ·cases he
  ·cases hc
 ·rename_i t ho;simp only[aad]at hc;obtain⟨z,hz,rfl⟩:=hc;simp only[bu,aab,aae]at he;obtain⟨rfl,rfl⟩:=he;exact Jh ho hz hh jo
 ·rename_i t x ho;split at hc
  ·rename_i n x' hn hx;simp only[aab]at hc;subst hc;simp only[bu]at he;cases gI:(Nat.beq (bK (ρ x')).length n&&(bK (ρ x')).all dE)with
    |false=>rw[gI]at he;cases he
    |true=>rw[gI]at he;simp only[aag,aab,aae]at he;simp only[aac]at gI;obtain⟨rfl,rfl⟩:=he;rw[←aah gI.1];exact Pv ho hx gI.2 ev hh jo
  ·cases hc
 ·rename_i t ps ho;split at hc
  ·rename_i fs z ht hz;split at hc
   ·rename_i FZ nC;simp only[aad]at hc;obtain⟨qs,hq,rfl⟩:=hc;simp only[bu,aad,aae]at he;obtain⟨cs,gR,rfl,rfl⟩:=he;refine B_ ho hz (fun i zv parts hi yq=>?_ ) hq gR ev hh;simp only[Program.built,hi,ht,yq,nC]
   ·cases hc
  ·rename_i n e z ht hz;split at hc
   ·rename_i ie Uq;simp only[aad]at hc;obtain⟨qs,hq,rfl⟩:=hc;simp only[bu,aad,aae]at he;obtain⟨cs,gR,rfl,rfl⟩:=he;refine B_ ho hz (fun i zv parts hi yq=>?_ ) hq gR ev hh;simp only[Program.built,hi,ht,yq,Uq]
   ·cases hc
  ·cases hc
 ·rename_i t len ps ho;split at hc
  ·rename_i e ht;split at hc
   ·rename_i s z hs hz;split at hc
    ·rename_i gI;simp only[aad]at hc;obtain⟨qs,hq,rfl⟩:=hc;simp only[bu]at he;cases OM:(Nat.beq ((List.range (len*s)).map fun i=>z.getD (i%s) .any).length (len*s)&&((List.range (len*s)).map fun i=>z.getD (i%s) .any).all dE)with
      |false=>rw[OM]at he;cases he
      |true=>rw[OM]at he;simp only[aag,aad,aae]at he;obtain⟨cs,gR,rfl,rfl⟩:=he;obtain⟨k1,k2⟩:=Dt ho ht hs hz gI.1 gI.2.1 gI.2.2 hq gR ev hh jo;rw[k2]at k1;exact k1
    ·cases hc
   ·cases hc
  ·cases hc
 ·rename_i t x ho;split at hc
  ·rename_i n b x' hn hb hx;split at hc
   ·simp only[aab]at hc;subst hc;simp only[bu]at he;split at he
    ·rename_i cs gR;simp only[aad,aae]at he;obtain⟨v',fv,rfl,rfl⟩:=he;exact Mp ho hn hb hx gR fv ev hh
    ·cases he
   ·cases hc
  ·cases hc
 ·rename_i t x y ho;split at hc
  ·rename_i n x' y' hn hx hy;simp only[aab]at hc;subst hc;simp only[bu,aad,aae]at he;obtain⟨H2,h2,rfl,rfl⟩:=he;exact Jj ho hn hx hy h2 ev hh
  ·cases hc
 ·rename_i x ho;simp only[aad]at hc;obtain⟨x',hx,rfl⟩:=hc;have hH:wr=none:=by simp only[bu]at he;split at he<;>simp only[aab,aae,reduceCtorEq]at he<;>exact he.2.symm
  subst hH;exact F7 ho hx he ev hh
 ·rename_i op t x y yt ho;split at hc
  ·rename_i x' y' hx hy;have Gj:∀{io:ki},io=.bin op x' y'→bu ρ H ns io=some (v,wr)→Good P a o g w ns v (aX H wr):=by rintro io rfl he;simp only[bu,aad,aae]at he;obtain⟨v',fv,rfl,rfl⟩:=he;exact Pw ho hx hy fv ev hh
   have heq:∀{io:ki}{k:pU}{neg:Bool},io=.eq neg k x' y'→bu ρ H ns io=some (v,wr)→((op=.eql∧neg=false)∨(op=.neq∧neg=true))→(match k with| .bool=>P.underlying t=some .bool| .ptr=>∃e,P.underlying t=some (.pointer e)| .iface=>(∃e,P.underlying t=some (.interface e))∧((∃c,x=.const c)∨∃c,y=.const c)| .slice=>∃e,P.underlying t=some (.slice e)| .func=>∃s:Array TypeId×Array TypeId×Bool,P.underlying t=some (.func s.1 s.2.1 s.2.2))→Good P a o g w ns v (aX H wr):=by rintro io k neg rfl he ei hk;simp only[bu,aad,aae]at he;obtain⟨b,hb,rfl,rfl⟩:=he;exact Ub ho ei hk hx hy hb ev hh
   split at hc
   ·split at hc
    ·simp only[aab]at hc;exact Gj hc.symm he
    ·simp only[aab]at hc;exact Gj hc.symm he
    ·rename_i hu;simp only[aab]at hc;exact heq hc.symm he (.inl ⟨rfl,rfl⟩) hu
    ·rename_i e hu;simp only[aab]at hc;exact heq hc.symm he (.inl ⟨rfl,rfl⟩) ⟨e,hu⟩
    ·rename_i e hu;simp only[aab]at hc;exact heq hc.symm he (.inl ⟨rfl,rfl⟩) ⟨e,hu⟩
    ·rename_i p q r hu;simp only[aab]at hc;exact heq hc.symm he (.inl ⟨rfl,rfl⟩) ⟨(p,q,r),hu⟩
    ·rename_i fs hu;simp only[aad]at hc;obtain⟨ks,Gf,rfl⟩:=hc;simp only[bu]at he;split at he
     ·rename_i us e1;split at he
      ·rename_i vs e2;split at he
       ·rename_i r ME;simp only[aab,aae]at he;obtain⟨rfl,rfl⟩:=he;exact Ll ho (.inl ⟨rfl,rfl⟩) Gf hx hy e1 e2 ME ev hh
       ·cases he
      ·cases he
     ·cases he
    ·rename_i e hu;split at hc
     ·simp only[aab]at hc;exact heq hc.symm he (.inl ⟨rfl,rfl⟩) ⟨⟨e,hu⟩,.inl ⟨_,rfl⟩⟩
     ·simp only[aab]at hc;exact heq hc.symm he (.inl ⟨rfl,rfl⟩) ⟨⟨e,hu⟩,.inr ⟨_,rfl⟩⟩
     ·cases hc
    ·cases hc
   ·split at hc
    ·simp only[aab]at hc;exact Gj hc.symm he
    ·simp only[aab]at hc;exact Gj hc.symm he
    ·rename_i hu;simp only[aab]at hc;exact heq hc.symm he (.inr ⟨rfl,rfl⟩) hu
    ·rename_i e hu;simp only[aab]at hc;exact heq hc.symm he (.inr ⟨rfl,rfl⟩) ⟨e,hu⟩
    ·rename_i e hu;simp only[aab]at hc;exact heq hc.symm he (.inr ⟨rfl,rfl⟩) ⟨e,hu⟩
    ·rename_i p q r hu;simp only[aab]at hc;exact heq hc.symm he (.inr ⟨rfl,rfl⟩) ⟨(p,q,r),hu⟩
    ·rename_i fs hu;simp only[aad]at hc;obtain⟨ks,Gf,rfl⟩:=hc;simp only[bu]at he;split at he
     ·rename_i us e1;split at he
      ·rename_i vs e2;split at he
       ·rename_i r ME;simp only[aab,aae]at he;obtain⟨rfl,rfl⟩:=he;exact Ll ho (.inr ⟨rfl,rfl⟩) Gf hx hy e1 e2 ME ev hh
       ·cases he
      ·cases he
     ·cases he
    ·rename_i e hu;split at hc
     ·simp only[aab]at hc;exact heq hc.symm he (.inr ⟨rfl,rfl⟩) ⟨⟨e,hu⟩,.inl ⟨_,rfl⟩⟩
     ·simp only[aab]at hc;exact heq hc.symm he (.inr ⟨rfl,rfl⟩) ⟨⟨e,hu⟩,.inr ⟨_,rfl⟩⟩
     ·cases hc
    ·cases hc
   ·simp only[aab]at hc;exact Gj hc.symm he
  ·cases hc
 ·rename_i op t x ho;simp only[aad]at hc;obtain⟨x',hx,rfl⟩:=hc;simp only[bu,aad,aae]at he;obtain⟨v',fv,rfl,rfl⟩:=he;exact Uc ho hx fv ev hh
 ·rename_i s d x ho;split at hc
  ·rename_i k0 k x' hs hd hx;simp only[aab]at hc;subst hc;simp only[bu]at he;split at he
   ·rename_i k1 n e;simp only[aab,aae]at he;obtain⟨rfl,rfl⟩:=he;exact Mq ho hs hd hx e ev hh
   ·cases he
  ·rename_i x' hs hd hx;simp only[aab]at hc;subst hc;simp only[bu]at he;split at he
   ·rename_i l e;simp only[aab,aae]at he;obtain⟨rfl,rfl⟩:=he;exact Mr ho hs hd hx e ev hh
   ·cases he
  ·rename_i el x' hs hd hx;split at hc
   ·rename_i Jw;simp only[aab]at hc;subst hc;simp only[bu]at he;split at he
    ·rename_i l e;simp only[aab,aae]at he;obtain⟨rfl,rfl⟩:=he;exact AQ ho hs hd Jw hx e ev hh
    ·cases he
   ·cases hc
  ·cases hc
 ·rename_i f p q ho;split at hc
  ·rename_i p' q' hp hq;simp only[aab]at hc;subst hc;simp only[bu,aab,aae]at he;obtain⟨rfl,rfl⟩:=he;exact Ga ho hp hq ev hh
  ·cases hc
 ·rename_i t ho;simp only[aab]at hc;subst hc;simp only[bu,aab,aae]at he;obtain⟨rfl,rfl⟩:=he;exact Jp ho hh jo
 ·rename_i t l c ho;split at hc
  ·rename_i e l' c' ht hl OM;split at hc
   ·rename_i i z hi hz;simp only[aab]at hc;subst hc;exact Jv ho ht hi hz hl OM he ev hh jo
   ·cases hc
  ·cases hc
 ·rename_i t x lo hi ho;split at hc
  ·rename_i x' uz ld hx jH js;split at hc
   ·rename_i ht;simp only[aab]at hc;subst hc;simp only[bu]at he;split at he
    ·rename_i s e;simp only[aad]at he;obtain⟨⟨l,h⟩,hb,he⟩:=he;simp only[aae]at he;obtain⟨rfl,rfl⟩:=he;exact F8 ho ht hx jH js e hb ev hh
    ·cases he
   ·rename_i el ht;simp only[aad]at hc;obtain⟨s,hs,rfl⟩:=hc;simp only[bu]at he;split at he
    ·rename_i es e;cases hl:es.all (fun e=>Nat.beq e.length s)with
      |false=>rw[hl]at he;cases he
      |true=>rw[hl]at he;simp only[aag,aad]at he;obtain⟨⟨l,h⟩,hb,he⟩:=he;simp only[aae]at he;obtain⟨rfl,rfl⟩:=he;exact F9 ho ht hs hx jH js e hl hb ev hh
    ·rename_i b Mk off len uy e;cases hl:(Nat.beq s uy&&dP H b Mk)with
      |false=>rw[hl]at he;cases he
      |true=>rw[hl]at he;simp only[aag,aad]at he;obtain⟨⟨l,h⟩,FM,he⟩:=he;simp only[aae]at he;obtain⟨rfl,rfl⟩:=he;simp only[aac]at hl;have:=aah hl.1;subst this;exact Dx ho ht hs hx jH js e hl.2 FM ev hh
    ·rename_i e;simp only[aad]at he;obtain⟨⟨l,h⟩,FM,he⟩:=he;simp only[aae]at he;obtain⟨rfl,rfl⟩:=he;exact Dy ho ht hs hx jH js e FM ev hh
    ·cases he
   ·rename_i n el ht;simp only[aad]at hc;obtain⟨s,hs,rfl⟩:=hc;simp only[bu]at he;split at he
    ·rename_i b Mk off e;cases hl:(dP H b Mk&&Nat.ble (off+n*s) Mk&&Nat.blt 0 Mk)with
      |false=>rw[hl]at he;cases he
      |true=>rw[hl]at he;simp only[aag,aad]at he;obtain⟨⟨l,h⟩,FM,he⟩:=he;simp only[aae]at he;obtain⟨rfl,rfl⟩:=he;simp only[aac]at hl;exact F' ho ht hs hx jH js e hl.1.1 (aak hl.1.2) (by have:=hl.2;rwa[aas]at this) FM ev hh
    ·cases he
   ·cases hc
  ·cases hc
 ·rename_i s x f ho;split at hc
  ·rename_i fs x' ht hx;split at hc
   ·rename_i off n hf;split at hc
    ·rename_i h0;simp only[aab]at hc;subst hc;have hH:wr=none:=by simp only[bu]at he;split at he<;>simp only[aab,aae,reduceCtorEq]at he<;>exact he.2.symm
     subst hH;exact Jn ho ht hf h0 hx he ev hh
    ·cases hc
   ·cases hc
  ·cases hc
 ·rename_i s x f ho;split at hc
  ·rename_i fs x' ht hx;split at hc
   ·rename_i fd Ue;split at hc
    ·rename_i n b hn hb;split at hc
     ·rename_i h1;simp only[aab]at hc;subst hc;simp only[bu]at he;split at he
      ·rename_i cs e;cases hl:Nat.ble (fd.offset+n) cs.length with
        |false=>rw[hl]at he;cases he
        |true=>rw[hl]at he;simp only[aag,aad,aae]at he;obtain⟨v',fv,rfl,rfl⟩:=he;exact Py ho ht Ue hn hb h1 hx e (aak hl) fv ev hh
      ·cases he
     ·cases hc
    ·cases hc
   ·cases hc
  ·cases hc
 ·rename_i t x i ho;split at hc
  ·rename_i x' i' hx hi;split at hc
   ·rename_i e ht;simp only[aad]at hc;obtain⟨s,hs,rfl⟩:=hc;have hH:wr=none:=by
     simp only[bu]at he;split at he
     ·cases he
     ·split at he
      ·split at he
       ·rename_i d _;cases hq:Nat.beq d.length s<;>simp[hq]at he;exact he.2.symm
       ·cases he
      ·rename_i b hb off len uy _;cases hq:(Nat.beq s uy&&Nat.blt _ len&&dP H b hb)<;>rw[hq]at he<;>simp at he;exact he.2.symm
      ·cases he
    subst hH;exact Jo ho ht hs hx hi he ev hh
   ·rename_i n e ht;simp only[aad]at hc;obtain⟨s,hs,rfl⟩:=hc;have hH:wr=none:=by
     simp only[bu]at he;split at he
     ·cases he
     ·rename_i j _;cases hq:Nat.blt j n with
       |false=>rw[hq]at he;cases he
       |true=>rw[hq]at he;simp only[aag]at he;split at he<;>simp only[aab,aae,reduceCtorEq]at he<;>exact he.2.symm
    subst hH;exact F_ ho ht hs hx hi he ev hh
   ·cases hc
  ·cases hc
 ·rename_i t x i ho;split at hc
  ·rename_i x' i' hx hi;split at hc
   ·rename_i ht;simp only[aab]at hc;subst hc;have hH:wr=none:=by
     simp only[bu]at he;split at he
     ·cases he
     ·split at he
      ·split at he<;>simp only[aab,aae,reduceCtorEq]at he;exact he.2.symm
      ·cases he
    subst hH;exact Mt ho ht hx hi he ev hh
   ·rename_i n e ht;split at hc
    ·rename_i s b hs hb;split at hc
     ·rename_i h1;simp only[aab]at hc;subst hc;simp only[bu]at he;split at he
      ·cases he
      ·rename_i j ej;split at he
       ·rename_i cs e';cases hl:(Nat.blt j n&&Nat.ble (n*s) cs.length)with
         |false=>rw[hl]at he;cases he
         |true=>rw[hl]at he;simp only[aag,aad,aae]at he;simp only[aac]at hl;obtain⟨v',fv,rfl,rfl⟩:=he;exact Mu ho ht hs hb h1 hx hi ej e' (by have:=hl.1;rwa[aas]at this) (aak hl.2) fv ev hh
       ·cases he
     ·cases hc
    ·cases hc
   ·cases hc
  ·cases hc
 ·rename_i x i ho;simp only[aad]at hc;obtain⟨x',hx,rfl⟩:=hc;simp only[bu]at he;split at he
  ·rename_i vs e;simp only[aad,aae]at he;obtain⟨v',fv,rfl,rfl⟩:=he;exact PA ho hx e fv ev hh
  ·cases he
 ·rename_i t x ho;split at hc
  ·cases hc
  ·rename_i d x' X9 ht hx;simp only[aab]at hc;subst hc;simp only[bu,aab,aae]at he;obtain⟨rfl,rfl⟩:=he;exact DB ho ht (fun m hm=>X9 m hm) hx ev hh
  ·cases hc
 ·rename_i t m k ok ho;have hl:∀{kk:cB}{z:V}{m' k':a_},bu ρ H ns (.lookup kk z ok m' k')=some (v,wr)→wr=none:=by
   intro kk z m' k' he;simp only[bu]at he;split at he
   ·rename_i kd _;cases hq:eM kk kd with
     |false=>rw[hq]at he;cases he
     |true=>
      rw[hq]at he;simp only[aag]at he;split at he
      ·split at he<;>simp only[aab,aae,reduceCtorEq]at he<;>exact he.2.symm
      ·cases he
   ·cases he
  split at hc
  ·rename_i kt e m' k' ht hm hk;split at hc
   ·rename_i z q hz nI;simp only[aab]at hc;subst hc;have:=hl he;subst this;exact sJ (kk:=.int) ho ht ⟨q,nI⟩ hz hm hk he ev hh
   ·rename_i z hz nI;simp only[aab]at hc;subst hc;have:=hl he;subst this;exact sJ (kk:=.str) ho ht nI hz hm hk he ev hh
   ·rename_i z hz nI;simp only[aab]at hc;subst hc;have:=hl he;subst this;exact sJ (kk:=.bool) ho ht nI hz hm hk he ev hh
   ·cases hc
  ·cases hc
 ·rename_i t m k x ho;split at hc
  ·rename_i kt e m' k' x' ht hm hk hx;split at hc
   ·rename_i q nI;simp only[aab]at hc;subst hc;exact sK (kk:=.int) ho ht ⟨q,nI⟩ hm hk hx he ev hh
   ·rename_i nI;simp only[aab]at hc;subst hc;exact sK (kk:=.str) ho ht nI hm hk hx he ev hh
   ·rename_i nI;simp only[aab]at hc;subst hc;exact sK (kk:=.bool) ho ht nI hm hk hx he ev hh
   ·cases hc
  ·cases hc
 ·rename_i t x ho;split at hc
  ·rename_i kt el ht;simp only[aad]at hc;obtain⟨x',hx,rfl⟩:=hc;exact Jq ho ht hx he ev hh jo
  ·cases hc
 ·rename_i it s ho;split at hc
  ·cases hc
  ·simp only[aad]at hc;obtain⟨x',hx,rfl⟩:=hc;simp[bu]at he
 ·rename_i it ho;simp only[aad]at hc;obtain⟨x',hx,rfl⟩:=hc;exact Jr ho hx he ev hh
 ·rename_i c ho;exact Gi ho hc he ev hh jo
 ·cases hc
end
end Fw
/-
  A box that nobody writes any more is known as data from then on.
-/
namespace Fw
open Go
theorem iX(sz n:Nat)(l:List D):(eL sz n l).length=n:=by
 induction n generalizing l with
  |zero=>rfl
  |succ n ih=>simp[eL,ih]
theorem dh.nc{w:World}{im:Nat→Prop}{aO:Nat}:∀{ds:List D}{vs:List Value}{off:Nat},ds.length=vs.length→(∀(j:Nat)(d:D)(v:Value),ds[j]? =some d→vs[j]? =some v→Rd w im d v)→(∀(j:Nat)(v:Value),vs[j]? =some v→w.cell? ⟨aO,off+j,none⟩=some v)→dh w im aO off ds
 |[],_,_,_,_,_=>by simp only[dh]
 |d::ds,[],_,hl,_,_=>by simp at hl
 |d::ds,v::vs,off,hl,h1,h2=>by simp only[dh];refine⟨⟨v,by have:=h2 0 v rfl;simpa using this,h1 0 d v rfl rfl⟩,dh.nc (vs:=vs) (by simpa using hl) (fun j d' v' hd hv=>h1 (j+1) d' v' (by simpa using hd) (by simpa using hv)) (fun j v' hv=>?_ )⟩;have:=h2 (j+1) v' (by simpa using hv);rwa[show off+(j+1)=off+1+j by omega]at this
theorem dh.take{w:World}{im:Nat→Prop}{aO:Nat}:∀(k:Nat)(ds:List D)(q:Nat),dh w im aO q ds→dh w im aO q (ds.take k):=by
 intro k ds;induction ds generalizing k with
  |nil=>intro q _;simp[dh]
  |cons d ds ih=>
   intro q hq;cases k with
    |zero=>simp[dh]
    |succ k=>simp only[acu,dh]at hq⊢;exact⟨hq.1,ih k _ hq.2⟩
theorem n5{w:World}{im:Nat→Prop}{aO sz:Nat}:∀{n:Nat}{off:Nat}{l:List D},n*sz≤l.length→dh w im aO off l→iG w im aO off sz (eL sz n l)
 |0,_,_,_,_=>by simp only[eL,iG]
 |n+1,off,l,hl,h=>by
  simp only[eL,iG];have hle:sz≤l.length:=by rw[aa3]at hl;omega
  refine⟨by simp;omega,dh.take _ _ _ h,?_ ⟩;exact n5 (by simp;rw[aa3]at hl;omega) (dh.drop sz h)
mutual
def bO(b:Nat)(ds:List D):V→V| .ptr c h off=>bif Nat.beq c b then(bif Nat.beq h ds.length then .cA (ds.drop off)else .any)else .ptr c h off| .sl c h off len sz=>bif Nat.beq c b then(bif Nat.beq h ds.length&&Nat.ble (off+len*sz) h then .d (.list (eL sz len (ds.drop off)))else .any)else .sl c h off len sz| .map c=>bif Nat.beq c b then .any else .map c| .iter c m=>bif Nat.beq c b then .any else .iter c m| .func f a c=>.func f (gG b ds a) (gG b ds c)| .iface t v=>.iface t (bO b ds v)| .agg cs=>.agg (gG b ds cs)| .tuple vs=>.tuple (gG b ds vs)|v=>v
def gG(b:Nat)(ds:List D):List V→List V|[]=>[]|v::vs=>bO b ds v::gG b ds vs
end
def ez(b:Nat)(ds:List D):dU→dU
 | .cells cs=>.cells (gG b ds cs)
 | .map es=>.map (es.map fun p=>(p.1,bO b ds p.2))
 |x=>x
def eU(b:Nat)(ds:List D)(n:Nat):ah→ah|[]=>[]|x::H=>(bif Nat.beq n b then none else x.map (ez b ds))::eU b ds (n+1) H
def fk:Option dU→Bool|some (.cells cs)=>cs.all dE|_=>true
def rD(H:ah)(b:Nat):Option (List D):=match aA H b with
 |some (.cells cs)=>dV cs
 |some .nil=>some []
 |_=>none
def G.del(g:G)(b:Nat):G:=⟨g.cK,fun c=>if c=b then none else g.γ c,g.fo⟩
theorem p4(b:Nat)(ds:List D):∀(H:ah)(n c:Nat),aA (eU b ds n H) c=if n+c=b then none else(aA H c).map (ez b ds)
 |[],n,c=>by simp[eU,aA]
 |x::H,n,0=>by
  simp only[eU,aA,abk];by_cases h:n=b
  ·subst h;simp
  ·simp[h,cw h]
 |x::H,n,c+1=>by simp only[eU,aA];rw[p4 b ds H (n+1) c];simp only[show n+1+c=n+(c+1) by omega]
theorem qW(b:Nat)(ds:List D):∀(H:ah)(n:Nat),(eU b ds n H).length=H.length|[],_=>rfl|x::H,n=>by simp[eU,qW b ds H (n+1)]
theorem nd{g:G}{w:World}{b k:Nat}(h:da g w k):da (g.del b) w k:=by
 refine⟨h.1,h.2.1,fun c x hx=>?_ ⟩;simp only[G.del]at hx;split at hx
 ·cases hx
 ·exact h.2.2 c x hx
theorem ju:∀{cs:List V}{ds:List D},dV cs=some ds→cs.length=ds.length∧∀(i:Nat)(d:D),ds[i]? =some d→cs[i]? =some (.d d)∨(cs[i]? =some .ab∧d=.list [])
 |[],ds,h=>by simp only[dV,aab]at h;subst h;simp
 |c::cs,ds,h=>by
  cases c with
   |d x=>
    simp only[dV,aad]at h;obtain⟨Zm,h1,rfl⟩:=h;obtain⟨h2,h3⟩:=ju h1;refine⟨by simp[h2],fun i d hd=>?_ ⟩;cases i with
     |zero=>simp at hd;subst hd;left;rfl
     |succ i=>simp at hd⊢;exact h3 i d hd
   |ab=>
    simp only[dV,aad]at h;obtain⟨Zm,h1,rfl⟩:=h;obtain⟨h2,h3⟩:=ju h1;refine⟨by simp[h2],fun i d hd=>?_ ⟩;cases i with
     |zero=>simp at hd;subst hd;right;exact⟨rfl,rfl⟩
     |succ i=>simp at hd⊢;exact h3 i d hd
   |_=>simp[dV]at h
def sM(g:G)(w:World)(b:Nat)(ds:List D):Prop:=match g.γ b with
 |some (.cells aO _ cur)=>cur=ds.length∧da (g.del b) w aO∧dh w (da (g.del b) w) aO 0 ds
 |some .nil=>ds=[]
 |_=>False
theorem Gk{g:G}{w:World}{H:ah}{b:Nat}{ds:List D}(hh:av g w H)(h:rD H b=some ds):sM g w b ds:=by
 unfold rD at h;split at h
 ·rename_i cs hg;obtain⟨x,hx⟩:=hh.back b _ hg;obtain⟨_,y,hy,hr⟩:=hh.live b x hx;rw[hg]at hy;simp only[aab]at hy;subst hy;obtain⟨hl,Lm⟩:=ju h;unfold sM;rw[hx];cases x with
   |cells aO cp cur=>
    have bL:=hr.lt aO rfl;have B9:=hh.u5 hx rfl;simp only[RB]at hr;obtain⟨r1,r2,r3,c,e,r4,r5,r6⟩:=hr;have sN:da (g.del b) w aO:=by
     refine⟨bL,B9,fun c' x' gS hk=>?_ ⟩;simp only[G.del]at gS;split at gS
     ·cases gS
     ·rename_i ew;exact ew (hh.inj c' b x' _ aO gS hx hk rfl)
    refine⟨by omega,sN,?_ ⟩;have ON:=r6.length;refine dh.nc (vs:=c.toList.take cs.length) (by omega) (fun j d v hd hv=>?_ ) (fun j v hv=>?_ )
    ·rcases Lm j d hd with hc|⟨hc,rfl⟩
     ·obtain⟨v',fv,Dv⟩:=aP.get j r6 hc;rw[hv]at fv;simp only[aab]at fv;subst fv;simp only[RV]at Dv;exact Rd.keeps (fun k hk=>⟨nd hk,rfl⟩) _ _ Dv
     ·obtain⟨v',fv,Dv⟩:=aP.get j r6 hc;rw[hv]at fv;simp only[aab]at fv;subst fv;simp only[RV]at Dv;subst Dv;simp[Rd]
    ·rw[aaL]at hv;split at hv
     ·simp only[World.cell?,r4];simpa using hv
     ·cases hv
   |nil=>simp only[RB]at hr
   |obj=>simp only[RB]at hr
 ·rename_i hg;simp only[aab]at h;subst h;obtain⟨x,hx⟩:=hh.back b _ hg;obtain⟨_,y,hy,hr⟩:=hh.live b x hx;rw[hg]at hy;simp only[aab]at hy;subst hy;unfold sM;rw[hx];cases x<;>simp[RB]at hr⊢
 ·cases h
mutual
theorem RV.nL{g:G}{w:World}{b:Nat}{ds:List D}(hf:sM g w b ds):∀(u:V)(v:Value),RV g w u v→RV (g.del b) w (bO b ds u) v
 | .any,_,_=>by simp only[bO,RV]
 | .d x,v,hv=>by simp only[bO,RV]at hv⊢;exact Rd.keeps (fun k hk=>⟨nd hk,rfl⟩) _ _ hv
 | .ab,_,hv=>by simpa only[bO,RV]using hv
 | .ptr c h off,v,hv=>by
  simp only[bO];by_cases hc:c=b
  ·subst hc;simp only[aaz,aag];cases hb:Nat.beq h ds.length with
    |false=>simp only[aaw,RV]
    |true=>
     simp only[aag];have he:=aah hb;simp only[RV]at hv⊢;unfold sM at hf;split at hf
     ·rename_i aO cp cur yg;obtain⟨f1,f2,f3⟩:=hf;obtain⟨Dz,X2,yv,e1,e2,e3⟩:=hv.2 _ yg;simp only[GB.cells.injEq]at e1;obtain⟨rfl,rfl,rfl⟩:=e1;exact⟨aO,off,e2 (by omega),fun _=>f2,by simpa using dh.drop off f3⟩
     ·rename_i yg;obtain⟨Dz,X2,yv,e1,e2,e3⟩:=hv.2 _ yg;cases e1
     ·exact hf.elim
  ·rw[cw hc,aaw];simp only[RV]at hv⊢;exact⟨hv.1,fun x hx=>hv.2 x (by simpa[G.del,hc]using hx)⟩
 | .ji,_,hv=>by simpa only[bO,RV]using hv
 | .cA cs,v,hv=>by
  simp only[bO,RV]at hv⊢;obtain⟨aO,off,h1,h2,h3⟩:=hv;refine⟨aO,off,h1,fun hn=>nd (h2 hn),?_ ⟩;cases cs with
   |nil=>simp only[dh]
   |cons c cs=>exact dh.keeps (im:=da g w) (uF:=da (g.del b) w) (fun k hk=>⟨nd hk,rfl⟩) (h2 (by simp)) _ _ h3
 | .sl c h off len sz,v,hv=>by
  simp only[bO];by_cases hc:c=b
  ·subst hc;simp only[aaz,aag];cases hb:(Nat.beq h ds.length&&Nat.ble (off+len*sz) h)with
    |false=>simp only[aaw,RV]
    |true=>
     simp only[aag];simp only[aac]at hb;have he:=aah hb.1;have hle:=aak hb.2;simp only[RV,Rd,iX]at hv⊢;unfold sM at hf;split at hf
     ·rename_i aO cp cur yg;obtain⟨f1,f2,f3⟩:=hf;have hx:=hv.2 _ yg;obtain⟨cap,k1,k2,k3⟩:=hx.2 (by omega);right;exact⟨aO,off,cap,sz,k1,k2,fun _=>f2,n5 (by simp;omega) (by simpa using dh.drop off f3)⟩
     ·rename_i yg;have hx:=hv.2 _ yg;obtain⟨rfl,rfl,rfl,rfl⟩:=hx;left;exact⟨rfl,.inl rfl⟩
     ·exact hf.elim
  ·rw[cw hc,aaw];simp only[RV]at hv⊢;exact⟨hv.1,fun x hx=>hv.2 x (by simpa[G.del,hc]using hx)⟩
 | .map c,v,hv=>by
  simp only[bO];by_cases hc:c=b
  ·subst hc;simp only[aaz,aag,RV]
  ·rw[cw hc,aaw];simp only[RV]at hv⊢;exact⟨hv.1,fun x hx=>hv.2 x (by simpa[G.del,hc]using hx)⟩
 | .kV,_,hv=>by simpa only[bO,RV]using hv
 | .func f a c,v,hv=>by simp only[bO,RV]at hv⊢;obtain⟨x,y,h1,h2,h3⟩:=hv;exact⟨x,y,h1,aP.nL hf _ _ h2,aP.nL hf _ _ h3⟩
 | .mh,_,hv=>by simpa only[bO,RV]using hv
 | .iface t u,v,hv=>by simp only[bO,RV]at hv⊢;obtain⟨x,h1,h2⟩:=hv;exact⟨x,h1,RV.nL hf _ _ h2⟩
 | .bX,_,hv=>by simpa only[bO,RV]using hv
 | .gD,_,hv=>by simpa only[bO,RV]using hv
 | .agg cs,v,hv=>by simp only[bO,RV]at hv⊢;obtain⟨x,h1,h2⟩:=hv;exact⟨x,h1,aP.nL hf _ _ h2⟩
 | .tuple vs,v,hv=>by simp only[bO,RV]at hv⊢;obtain⟨x,h1,h2⟩:=hv;exact⟨x,h1,aP.nL hf _ _ h2⟩
 | .iter c _,v,hv=>by
  simp only[bO];by_cases hc:c=b
  ·subst hc;simp only[aaz,aag,RV]
  ·rw[cw hc,aaw];simp only[RV]at hv⊢;exact⟨hv.1,fun x hx=>hv.2 x (by simpa[G.del,hc]using hx)⟩
theorem aP.nL{g:G}{w:World}{b:Nat}{ds:List D}(hf:sM g w b ds):∀(us:List V)(vs:List Value),aP g w us vs→aP (g.del b) w (gG b ds us) vs
 |[],[],_=>by simp only[gG,aP]
 |u::us,v::vs,hv=>by simp only[gG,aP]at hv⊢;exact⟨RV.nL hf _ _ hv.1,aP.nL hf _ _ hv.2⟩
 |[],_::_,hv=>by simp only[aP]at hv
 |_::_,[],hv=>by simp only[aP]at hv
end
theorem jV(b:Nat)(ds:List D):∀(l:List V),(gG b ds l).length=l.length|[]=>rfl|_::l=>by simp[gG,jV b ds l]
theorem ch.nL{g:G}{w:World}{b:Nat}(g0:G)(w0:World)(h:ch g0 w0 g w):ch g0 w0 (g.del b) w:=⟨h.os,h.tape,h.output,h.size,fun k hk=>⟨nd (h.keeps k hk).1,(h.keeps k hk).2⟩,h.cK,fun c hc=>by
 simp only[G.del];split
 ·cases g0.γ c with
   |none=>simp only[GB.step]
   |some x=>cases x<;>simp only[GB.step]
 ·exact h.step c hc,h.fo,h.eD⟩
theorem av.nL{g:G}{w:World}{H:ah}{b:Nat}{ds:List D}(hh:av g w H)(h:rD H b=some ds)(eF:(eU b ds 0 H).all fk=true):av (g.del b) w (eU b ds 0 H):=by
 have hf:=Gk hh h;refine⟨fun c hc=>by rw[qW];exact hh.cK c hc,fun c x hx=>?_,fun c y hy=>?_,fun c c' x x' k hx gS hk iO=>?_,fun k hk=>⟨(hh.fo k hk).1,fun c x hx=>?_ ⟩⟩
 ·simp only[G.del]at hx;split at hx
  ·cases hx
  ·rename_i Uu;obtain⟨h1,y,h2,h3⟩:=hh.live c x hx;have hg:aA (eU b ds 0 H) c=some (ez b ds y):=by rw[p4,aal (by omega),h2];rfl
   refine⟨h1,_,hg,?_⟩;cases x with
    |cells aO cp cur=>
     cases y with
      |cells cs=>
       simp only[RB,ez]at h3⊢;obtain⟨r1,r2,r3,cc,e,r4,r5,r6⟩:=h3;refine⟨by rw[jV];exact r1,?_,by rw[jV];exact r3,cc,e,r4,r5,?_ ⟩
       ·have hm:some (dU.cells (gG b ds cs))∈eU b ds 0 H:=by
         have:∀(H:ah)(c:Nat)(y:dU),aA H c=some y→some y∈H:=by
          intro H;induction H with
           |nil=>intro c y hy;simp[aA]at hy
           |cons z H ih=>
            intro c y hy;cases c with
             |zero=>simp only[aA]at hy;subst hy;simp
             |succ c=>simp only[aA]at hy;exact abL _ (ih c y hy)
         exact this _ _ _ hg
        have:=aaq.1 eF _ hm;simpa[fk]using this
       ·rw[jV];exact aP.nL hf _ _ r6
      |_=>simp only[RB]at h3
    |nil=>cases y<;>simp only[RB,ez]at h3⊢
    |obj aO=>
     cases y with
      |map es=>simp only[RB,ez]at h3⊢;obtain⟨bN,clock,e1,e2,e3,e4,e5⟩:=h3;refine⟨bN,clock,e1,by simp[e2],fun i k v hi=>?_,e4,e5⟩;simp only[aaO,aad,aae]at hi;obtain⟨⟨k',v'⟩,ld,rfl,rfl⟩:=hi;obtain⟨z,z1,z2,z3,z4⟩:=e3 i k' v' ld;exact⟨z,z1,z2,Rd.keeps (fun k hk=>⟨nd hk,rfl⟩) _ _ z3,RV.nL hf _ _ z4⟩
      |yo s pos=>simpa only[RB,ez]using h3
      |dC m n seen=>
       simp only[RB,ez]at h3⊢;obtain⟨mb,sa,e1,e2,e3,e4⟩:=h3;refine⟨mb,sa,e1,e2,e3,fun x hx=>e4 x ?_ ⟩;simp only[G.del]at hx;split at hx
       ·cases hx
       ·exact hx
      |_=>simp only[RB]at h3
 ·rw[p4]at hy;split at hy
  ·cases hy
  ·rename_i Uu;simp only[aad]at hy;obtain⟨y',yu,rfl⟩:=hy;obtain⟨x,hx⟩:=hh.back c y' yu;exact⟨x,by simp only[G.del];rw[aal (by omega)];exact hx⟩
 ·simp only[G.del]at hx gS;split at hx
  ·cases hx
  ·split at gS
   ·cases gS
   ·exact hh.inj c c' x x' k hx gS hk iO
 ·simp only[G.del]at hx;split at hx
  ·cases hx
  ·exact(hh.fo k hk).2 c x hx
def iQ(b:Nat)(σ:St):Option St:=match rD σ.hp b with
 |some ds=>bif (eU b ds 0 σ.hp).all fk then some ⟨σ.n,σ.tm.map fun p=>(p.1,bO b ds p.2),eU b ds 0 σ.hp⟩else none
 |none=>none
theorem ll(f:V→V)(hf:f .any=.any):∀(l:List (Nat×V))(t:Nat),get (l.map fun p=>(p.1,f p.2)) t=f (get l t)
 |[],t=>by simp[get,hf]
 |(s,u)::l,t=>by simp only[aax,get,ll f hf l t];cases Nat.beq s t<;>rfl
theorem R.nL{GL:ca}{g:G}{w:World}{a:Act}{σ aL:St}{b:Nat}(h:R GL g w a σ)(hc:iQ b σ=some aL):R GL (g.del b) w a aL:=by
 unfold iQ at hc;split at hc
 ·rename_i ds Lm;cases eF:(eU b ds 0 σ.hp).all fk with
   |false=>rw[eF]at hc;cases hc
   |true=>rw[eF]at hc;simp only[aag,aab]at hc;subst hc;refine⟨h.defers,h.size,fun t=>?_,h.heap.nL Lm eF,h.dQ.ext (ch.nL _ _ (ch.refl _ _))⟩;simp only;rw[ll (bO b ds) (by simp only[bO])];exact RV.nL (Gk h.heap Lm) _ _ (h.tmps t)
 ·cases hc
def fS(ρ:a_→V):ki→Option V
 | .mkSlice sz len z ps=>
  match dO ρ z ps with
   |some cs=>
    match dV cs with
     |some ds=>some (.d (.list (eL sz len ds)))
     |none=>none
   |none=>none
 |_=>none
section
variable {P:Program}{a:Act}{o:Oper}{g:G}{w:World}{ρ:a_→V}{H:ah}{ns:Nat}
theorem wN{op:Op}{sz len:Nat}{z:List V}{ps:List (Nat×Nat×a_)}(h:bD P op=some (.mkSlice sz len z ps)):∃t e z0 qs,op=.buildSlice t len qs∧P.underlying t=some (.slice e)∧gf P e=some sz∧dF P e=some z0∧len*sz≤2^24∧z0.length=sz∧0<sz∧dG (fun i=>some (i*sz,sz)) qs.toList=some ps∧z=(List.range (len*sz)).map fun i=>z0.getD (i%sz) .any:=by
 cases op with
  |buildSlice t Zn qs=>
   simp only[bD]at h;split at h
   ·rename_i e ht;split at h
    ·rename_i s z0 hs hz;split at h
     ·rename_i hc;simp only[aad,ki.mkSlice.injEq]at h;obtain⟨q,hq,rfl,rfl,rfl,rfl⟩:=h;exact⟨t,e,z0,qs,rfl,ht,hs,hz,hc.1,hc.2.1,hc.2.2,hq,rfl⟩
     ·cases h
    ·cases h
   ·cases h
  |makeFunc fn a b=>exfalso;cases fn<;>(simp only[bD]at h;(repeat' split at h)<;>simp at h)
  |makeMap t r=>exfalso;cases r<;>(simp only[bD]at h;simp at h)
  |slice t x lo hi mx=>exfalso;cases mx<;>(simp only[bD]at h;(repeat' split at h)<;>simp at h)
  |call c=>exfalso;simp only[bD,dH]at h;(repeat' split at h)<;>simp at h
  |_=>exfalso;simp only[bD]at h;(repeat' split at h)<;>simp at h
theorem ch.MF{g:G}{w:World}{H:ah}(hh:av g w H)(o:Obj):ch g w g (w.alloc o)∧av g (w.alloc o) H∧da g (w.alloc o) w.heap.size:=by
 have he:ch g w g (w.alloc o):=⟨rfl,rfl,rfl,by simp,fun k hk=>⟨⟨by have:=hk.1;simp;omega,hk.2⟩,cL _ _ hk.1⟩,fun _ h=>h,fun _ _=>GB.step.refl _,rfl,fun k hk=>cL _ _ (hh.fo k hk).1⟩;have jt:∀b x k,g.γ b=some x→x.own=some k→k<w.heap.size:=fun b x k hx hk=>by obtain⟨_,y,_,hr⟩:=hh.live b x hx;exact hr.lt k hk
 refine⟨he,hh.ext he (fun b x k hx hk=>cL _ _ (jt b x k hx hk)),by simp,fun h=>?_,fun b x hx hk=>?_ ⟩
 ·have:=(hh.fo _ h).1;omega
 ·have:=jt b x _ hx hk;omega
theorem p_{io:ki}{v:V}(ei:bD P o.op=some io)(he:fS ρ io=some v)(ev:Ev ρ a g w)(hh:av g w H):∃w' x,(execOp a.eval o).run P w=.ok (.value x) w'∧RV g w' v x∧av g w' H∧ch g w g w':=by
 cases io with
  |mkSlice sz len z ps=>
   simp only[fS]at he;split at he
   ·rename_i cs gR;split at he
    ·rename_i ds Lm;simp only[aab]at he;subst he;obtain⟨t,e,z0,qs,ho,hu,hs,hz,h1,h2,h3,hq,rfl⟩:=wN ei;obtain⟨c',k1,k2,k3,k4⟩:=qU ho hu hs hz h1 h2 h3 hq gR ev;obtain⟨f1,f2,f3⟩:=ch.MF hh (.cells c' e);refine⟨_,_,k4,?_,f2,f1⟩;simp only[RV,Rd,iX];right;obtain⟨hl,aA⟩:=ju Lm;have hk:=k1.length;refine⟨_,0,len,sz,rfl,aao _,fun _=>f3,n5 (by omega) ?_ ⟩;refine dh.nc (vs:=c'.toList) (by omega) (fun j d v hd hv=>?_ ) (fun j v hv=>?_ )
     ·rcases aA j d hd with hc|⟨hc,rfl⟩
      ·obtain⟨v',fv,Dv⟩:=aP.get j k1 hc;rw[hv]at fv;simp only[aab]at fv;subst fv;simp only[RV]at Dv;exact Rd.keeps f1.keeps _ _ Dv
      ·obtain⟨v',fv,Dv⟩:=aP.get j k1 hc;rw[hv]at fv;simp only[aab]at fv;subst fv;simp only[RV]at Dv;subst Dv;simp[Rd]
     ·simp only[World.cell?,bS];simpa using hv
    ·cases he
   ·cases he
  |_=>simp[fS]at he
end
end Fw
