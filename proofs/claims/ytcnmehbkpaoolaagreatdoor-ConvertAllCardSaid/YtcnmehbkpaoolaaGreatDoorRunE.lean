/-
 Proof.
-/
import Derived.Test.YtcnmehbkpaoolaaGreatDoorRunD
import Derived.KernelRfl
namespace Go.Den
set_option maxRecDepth 100000
variable{c:CF}{k:KV}{n:Nat}{h:H}
theorem g16{v_0:AV}(hg:Aoa c k (r16 c k n) v_0 h):f16 (r16 c k (n+1)) 0 (Ab [v_0]) h:=hg
theorem Bcx{x0 x1:AV}{x2:Int}(hg:An9 c k (r16 c k n) x0 x1 x2 h):(r16 c k (n+1)).a1 x0 x1 x2 h:=hg
theorem Bcw{x0 x1:AV}{x2:Int}(hg:An8 c k (r16 c k n) x0 x1 x2 h):(r16 c k (n+1)).a2 x0 x1 x2 h:=hg
theorem g20{l_0 c_0:Nat}(hg:Ant c k (r20 c k n) l_0 c_0 h):f20 (r20 c k (n+1)) 0 (Ab [.str l_0 c_0]) h:=hg
theorem g34{n_1:Int}{v_0:AV}(hg:Ano c k (r34 c k n) v_0 n_1 h):f34 (r34 c k (n+1)) 0 (Ab [v_0,.int .i64 n_1]) h:=hg
theorem Bcj{x0:AV}{x1:Int}{x2 x3:AV}{x4 x5:Nat}{x6:Bool}{x7 x8:Int}(hg:Ann c k (r34 c k n) x0 x1 x2 x3 x4 x5 x6 x7 x8 h):(r34 c k (n+1)).a1 x0 x1 x2 x3 x4 x5 x6 x7 x8 h:=hg
theorem Bci{x0:AV}{x1:Int}{x2 x3:AV}{x4 x5:Nat}{x6:Bool}{x7:Int}{x8 x9:Nat}(hg:Anm c k (r34 c k n) x0 x1 x2 x3 x4 x5 x6 x7 x8 x9 h):(r34 c k (n+1)).a2 x0 x1 x2 x3 x4 x5 x6 x7 x8 x9 h:=hg
theorem Bch{x0:AV}{x1:Int}{x2 x3:AV}{x4 x5:Nat}{x6:Bool}{x7 x8:Int}(hg:Anl c k (r34 c k n) x0 x1 x2 x3 x4 x5 x6 x7 x8 h):(r34 c k (n+1)).a3 x0 x1 x2 x3 x4 x5 x6 x7 x8 h:=hg
theorem Bcg{x0:AV}{x1:Int}{x2 x3:AV}{x4 x5:Nat}{x6:Int}(hg:Ank c k (r34 c k n) x0 x1 x2 x3 x4 x5 x6 h):(r34 c k (n+1)).a4 x0 x1 x2 x3 x4 x5 x6 h:=hg
theorem g35{v_0 v_1:AV}(hg:Anj c k (r35 c k n) v_0 v_1 h):f35 (r35 c k (n+1)) 0 (Ab [v_0,v_1]) h:=hg
theorem g36{v_0 v_1:AV}(hg:Ani c k (r36 c k n) v_0 v_1 h):f36 (r36 c k (n+1)) 0 (Ab [v_0,v_1]) h:=hg
theorem g43{l_1 c_1:Nat}{v_0:AV}(hg:Ag7 c k (r43 c k n) v_0 l_1 c_1 h):f43 (r43 c k (n+1)) 0 (Ab [v_0,.str l_1 c_1]) h:=hg
theorem g59{l_0 c_0:Nat}(hg:Amw c k (r59 c k n) l_0 c_0 h):f59 (r59 c k (n+1)) 0 (Ab [.str l_0 c_0]) h:=hg
theorem A0n{x0 x1:Nat}{x2:AV}{x3 x4:Nat}(hg:Ag6 c k (r59 c k n) x0 x1 x2 x3 x4 h):(r59 c k (n+1)).a1 x0 x1 x2 x3 x4 h:=hg
theorem A0m  (hg:Ag5 c k (r59 c k n)  h):(r59 c k (n+1)).a2  h:=hg
theorem Bb4{x0 x1:Nat}{x2:AV}{x3 x4:Nat}{x5 x6:Int}(hg:Amv c k (r59 c k n) x0 x1 x2 x3 x4 x5 x6 h):(r59 c k (n+1)).a3 x0 x1 x2 x3 x4 x5 x6 h:=hg
theorem g60{l_0 c_0:Nat}(hg:Amu c k (r60 c k n) l_0 c_0 h):f60 (r60 c k (n+1)) 0 (Ab [.str l_0 c_0]) h:=hg
theorem Bb3{x0 x1:Nat}{x2:AV}{x3 x4:Int}(hg:Amt c k (r60 c k n) x0 x1 x2 x3 x4 h):(r60 c k (n+1)).a1 x0 x1 x2 x3 x4 h:=hg
theorem g61{l_1 c_1:Nat}{v_0:AV}(hg:Ag4 c k (r61 c k n) v_0 l_1 c_1 h):f61 (r61 c k (n+1)) 0 (Ab [v_0,.str l_1 c_1]) h:=hg
theorem g62{l_0 c_0:Nat}(hg:Ams c k (r62 c k n) l_0 c_0 h):f62 (r62 c k (n+1)) 0 (Ab [.str l_0 c_0]) h:=hg
theorem g63{v_0:AV}(hg:Ag3 c k (r63 c k n) v_0 h):f63 (r63 c k (n+1)) 0 (Ab [v_0]) h:=hg
theorem g64{l_0 c_0:Nat}(hg:Amr c k (r64 c k n) l_0 c_0 h):f64 (r64 c k (n+1)) 0 (Ab [.str l_0 c_0]) h:=hg
theorem Bb2{x0:AV}{x1 x2:Nat}{x3 x4:Bool}{x5:Int}{x6 x7:Nat}(hg:Amq c k (r64 c k n) x0 x1 x2 x3 x4 x5 x6 x7 h):(r64 c k (n+1)).a1 x0 x1 x2 x3 x4 x5 x6 x7 h:=hg
theorem g65{l_0 c_0:Nat}(hg:Amp c k (r65 c k n) l_0 c_0 h):f65 (r65 c k (n+1)) 0 (Ab [.str l_0 c_0]) h:=hg
theorem Bb1{x0:Nat}{x1 x2:Nat}{x3 x4 x5:Nat}{x6:Int}{x7:Bool}(hg:Amo c k (r65 c k n) x0 x1 x2 x3 x4 x5 x6 x7 h):(r65 c k (n+1)).a1 x0 x1 x2 x3 x4 x5 x6 x7 h:=hg
theorem Bb0{x0:Nat}{x1 x2:Nat}{x3 x4 x5:Nat}(hg:Amn c k (r65 c k n) x0 x1 x2 x3 x4 x5 h):(r65 c k (n+1)).a2 x0 x1 x2 x3 x4 x5 h:=hg
theorem g66{l_0 c_0:Nat}(hg:Amm c k (r66 c k n) l_0 c_0 h):f66 (r66 c k (n+1)) 0 (Ab [.str l_0 c_0]) h:=hg
theorem Bbz{x0:AV}{x1 x2:Nat}{x3 x4:Nat}{x5 x6 x7:Int}(hg:Aml c k (r66 c k n) x0 x1 x2 x3 x4 x5 x6 x7 h):(r66 c k (n+1)).a1 x0 x1 x2 x3 x4 x5 x6 x7 h:=hg
theorem Bby{x0:AV}{x1 x2:Nat}{x3:Int}(hg:Amk c k (r66 c k n) x0 x1 x2 x3 h):(r66 c k (n+1)).a2 x0 x1 x2 x3 h:=hg
theorem g67{v_0:AV}(hg:Amj c k (r67 c k n) v_0 h):f67 (r67 c k (n+1)) 0 (Ab [v_0]) h:=hg
theorem g74{v_0 v_1:AV}(hg:Al4 c k (r74 c k n) v_0 v_1 h):f74 (r74 c k (n+1)) 0 (Ab [v_0,v_1]) h:=hg
theorem Bkc{n_1:Int}{v_0:AV}(hg:Ae7 c k (As7 c k n) v_0 n_1 h):f107 (As7 c k (n+1)) 0 (Ab [v_0,.int .u8 n_1]) h:=hg
theorem Bkb{l_0 c_0:Nat}(hg:Ae6 c k (Zo c k n) l_0 c_0 h):f108 (Zo c k (n+1)) 0 (Ab [.str l_0 c_0]) h:=hg
theorem A40{x0 x1 x2:Int}{x3:AV}(hg:Ae5 c k (Zo c k n) x0 x1 x2 x3 h):(Zo c k (n+1)).a1 x0 x1 x2 x3 h:=hg
theorem A4z{x0 x1:Nat}{x2 x3 x4:Int}(hg:Ae4 c k (Zo c k n) x0 x1 x2 x3 x4 h):(Zo c k (n+1)).a2 x0 x1 x2 x3 x4 h:=hg
theorem Bka{l_0:Nat}{c_0 l_1 c_1:Nat}(hg:Ae3 c k (As6 c k n) l_0 c_0 l_1 c_1 h):f109 (As6 c k (n+1)) 0 (Ab [.str l_0 c_0,.str l_1 c_1]) h:=hg
theorem Bj9{v_0:AV}(hg:Ae2 c k (As5 c k n) v_0 h):f110 (As5 c k (n+1)) 0 (Ab [v_0]) h:=hg
theorem Bj8{l_0 c_0:Nat}(hg:Ae1 c k (As4 c k n) l_0 c_0 h):f111 (As4 c k (n+1)) 0 (Ab [.str l_0 c_0]) h:=hg
theorem Bj7{l_0:Nat}{c_0 l_1 c_1:Nat}(hg:Ae0 c k (As3 c k n) l_0 c_0 l_1 c_1 h):f112 (As3 c k (n+1)) 0 (Ab [.str l_0 c_0,.str l_1 c_1]) h:=hg
theorem Bj6{l_0 c_0:Nat}(hg:Aez c k (Ahi c k n) l_0 c_0 h):f113 (Ahi c k (n+1)) 0 (Ab [.str l_0 c_0]) h:=hg
theorem A4y{x0 x1:Nat}{x2:Bool}(hg:Aey c k (Ahi c k n) x0 x1 x2 h):(Ahi c k (n+1)).a1 x0 x1 x2 h:=hg
theorem Bj5{l_0 c_0:Nat}(hg:Aex c k (As2 c k n) l_0 c_0 h):f114 (As2 c k (n+1)) 0 (Ab [.str l_0 c_0]) h:=hg
theorem Bj4{l_0:Nat}{c_0 l_1 c_1:Nat}(hg:Aj5 c k (As1 c k n) l_0 c_0 l_1 c_1 h):f115 (As1 c k (n+1)) 0 (Ab [.str l_0 c_0,.str l_1 c_1]) h:=hg
theorem Bj3{l_0:Nat}{c_0 l_1 c_1:Nat}(hg:Aew c k (As0 c k n) l_0 c_0 l_1 c_1 h):f116 (As0 c k (n+1)) 0 (Ab [.str l_0 c_0,.str l_1 c_1]) h:=hg
theorem Bj2{l_0 c_0:Nat}{n_1 n_2:Int}(hg:Aev c k (Asz c k n) l_0 c_0 n_1 n_2 h):f117 (Asz c k (n+1)) 0 (Ab [.str l_0 c_0,.int .i64 n_1,.int .i64 n_2]) h:=hg
theorem Bj1{l_0:Nat}{c_0 l_1 c_1:Nat}(hg:Aeu c k (Abf c k n) l_0 c_0 l_1 c_1 h):f118 (Abf c k (n+1)) 0 (Ab [.str l_0 c_0,.str l_1 c_1]) h:=hg
theorem A4x{x0:Nat}{x1 x2 x3:Nat}(hg:Aet c k (Abf c k n) x0 x1 x2 x3 h):(Abf c k (n+1)).a1 x0 x1 x2 x3 h:=hg
theorem Bj0{v_0:AV}(hg:Aes c k (Asy c k n) v_0 h):f119 (Asy c k (n+1)) 0 (Ab [v_0]) h:=hg
theorem Bjz{v_0:AV}(hg:Aer c k (Asx c k n) v_0 h):f120 (Asx c k (n+1)) 0 (Ab [v_0]) h:=hg
theorem Bjx{v_0:AV}(hg:Aeo c k (Asw c k n) v_0 h):f122 (Asw c k (n+1)) 0 (Ab [v_0]) h:=hg
theorem Bjw{l_1 c_1:Nat}{v_0:AV}(hg:Aen c k (Asv c k n) v_0 l_1 c_1 h):f136 (Asv c k (n+1)) 0 (Ab [v_0,.str l_1 c_1]) h:=hg
theorem Bjv{l_0 c_0:Nat}{n_1:Int}(hg:Aem c k (Asu c k n) l_0 c_0 n_1 h):f160 (Asu c k (n+1)) 0 (Ab [.str l_0 c_0,.int .u8 n_1]) h:=hg
theorem Bju{l_0 c_0:Nat}(hg:Ael c k (Nx c k n) l_0 c_0 h):f161 (Nx c k (n+1)) 0 (Ab [.str l_0 c_0]) h:=hg
theorem A4v{x0 x1:Nat}{x2 x3:Bool}{x4:Int}(hg:Aek c k (Nx c k n) x0 x1 x2 x3 x4 h):(Nx c k (n+1)).a1 x0 x1 x2 x3 x4 h:=hg
theorem A4u{x0 x1:Nat}{x2:AV}{x3 x4:Int}(hg:Aej c k (Nx c k n) x0 x1 x2 x3 x4 h):(Nx c k (n+1)).a2 x0 x1 x2 x3 x4 h:=hg
theorem A4t{x0 x1:Nat}{x2:AV}{x3 x4:Int}(hg:Aei c k (Nx c k n) x0 x1 x2 x3 x4 h):(Nx c k (n+1)).a3 x0 x1 x2 x3 x4 h:=hg
theorem At3{x0 x1:Nat}{x2:AV}{x3 x4:Int}(hg:Zj c k (Nx c k n) x0 x1 x2 x3 x4 h):(Nx c k (n+1)).a4 x0 x1 x2 x3 x4 h:=hg
theorem A4s{x0 x1:Nat}{x2 x3:Bool}(hg:Aeh c k (Nx c k n) x0 x1 x2 x3 h):(Nx c k (n+1)).a5 x0 x1 x2 x3 h:=hg
theorem Bjt{l_0 c_0:Nat}{n_1:Int}(hg:Aeg c k (Ass c k n) l_0 c_0 n_1 h):f162 (Ass c k (n+1)) 0 (Ab [.str l_0 c_0,.int .i32 n_1]) h:=hg
theorem Bjs{l_0:Nat}{c_0 l_1 c_1:Nat}(hg:Aef c k (Asr c k n) l_0 c_0 l_1 c_1 h):f163 (Asr c k (n+1)) 0 (Ab [.str l_0 c_0,.str l_1 c_1]) h:=hg
theorem Bjr{l_1 c_1:Nat}{v_0:AV}(hg:Aee c k (Asq c k n) v_0 l_1 c_1 h):f166 (Asq c k (n+1)) 0 (Ab [v_0,.str l_1 c_1]) h:=hg
theorem Bjq{l_0 c_0:Nat}{v_1:AV}(hg:Aed c k (Ahg c k n) l_0 c_0 v_1 h):f169 (Ahg c k (n+1)) 0 (Ab [.str l_0 c_0,v_1]) h:=hg
theorem A4r{x0 x1:Nat}{x2:AV}(hg:Aec c k (Ahg c k n) x0 x1 x2 h):(Ahg c k (n+1)).a1 x0 x1 x2 h:=hg
theorem Bjp{l_0:Nat}{c_0 l_1 c_1:Nat}(hg:Aeb c k (Asp c k n) l_0 c_0 l_1 c_1 h):f171 (Asp c k (n+1)) 0 (Ab [.str l_0 c_0,.str l_1 c_1]) h:=hg
theorem Bjo{l_0:Nat}{c_0 l_1 c_1:Nat}(hg:Aea c k (Aso c k n) l_0 c_0 l_1 c_1 h):f172 (Aso c k (n+1)) 0 (Ab [.str l_0 c_0,.str l_1 c_1]) h:=hg
theorem Bjn{l_0 c_0:Nat}{n_1 n_2:Int}(hg:Ad9 c k (Pm c k n) l_0 c_0 n_1 n_2 h):f173 (Pm c k (n+1)) 0 (Ab [.str l_0 c_0,.int .i64 n_1,.int .i64 n_2]) h:=hg
theorem A4q{x0:Int}{x1:Bool}{x2 x3:Nat}{x4 x5:Int}{x6:Bool}{x7:Int}{x8:AV}{x9 x10:Int}(hg:Ad8 c k (Pm c k n) x0 x1 x2 x3 x4 x5 x6 x7 x8 x9 x10 h):(Pm c k (n+1)).a1 x0 x1 x2 x3 x4 x5 x6 x7 x8 x9 x10 h:=hg
theorem A4p{x0:Int}{x1:Bool}{x2 x3:Nat}{x4 x5:Int}{x6:Bool}{x7 x8:Int}{x9:AV}{x10 x11:Int}(hg:Ad7 c k (Pm c k n) x0 x1 x2 x3 x4 x5 x6 x7 x8 x9 x10 x11 h):(Pm c k (n+1)).a2 x0 x1 x2 x3 x4 x5 x6 x7 x8 x9 x10 x11 h:=hg
theorem A4o{x0 x1:Nat}{x2 x3:Int}{x4:Bool}{x5 x6:Nat}{x7:Int}(hg:Ad6 c k (Pm c k n) x0 x1 x2 x3 x4 x5 x6 x7 h):(Pm c k (n+1)).a3 x0 x1 x2 x3 x4 x5 x6 x7 h:=hg
theorem A4n{x0 x1:Nat}{x2 x3:Int}{x4:Bool}{x5 x6:Nat}(hg:Ad5 c k (Pm c k n) x0 x1 x2 x3 x4 x5 x6 h):(Pm c k (n+1)).a4 x0 x1 x2 x3 x4 x5 x6 h:=hg
theorem A4m{x0 x1:Nat}{x2 x3:Int}{x4:Bool}{x5 x6:Nat}(hg:Ad4 c k (Pm c k n) x0 x1 x2 x3 x4 x5 x6 h):(Pm c k (n+1)).a5 x0 x1 x2 x3 x4 x5 x6 h:=hg
theorem Bjm{l_0 c_0:Nat}{n_1:Int}(hg:Ad3 c k (Asn c k n) l_0 c_0 n_1 h):f207 (Asn c k (n+1)) 0 (Ab [.str l_0 c_0,.int .u8 n_1]) h:=hg
theorem Bjl{n_1:Int}{v_0:AV}(hg:Ad2 c k (Aka c k n) v_0 n_1 h):f208 (Aka c k (n+1)) 0 (Ab [v_0,.int .i64 n_1]) h:=hg
theorem A4l{x0:AV}{x1:Int}(hg:Ad1 c k (Aka c k n) x0 x1 h):(Aka c k (n+1)).a1 x0 x1 h:=hg
theorem Bjk{n_1:Int}{v_0:AV}(hg:Ad0 c k (Asm c k n) v_0 n_1 h):f215 (Asm c k (n+1)) 0 (Ab [v_0,.int .u8 n_1]) h:=hg
theorem Bjj{l_0 c_0:Nat}{v_1:AV}(hg:Adz c k (Ahf c k n) l_0 c_0 v_1 h):f219 (Ahf c k (n+1)) 0 (Ab [.str l_0 c_0,v_1]) h:=hg
theorem At2{x0 x1:Nat}{x2:AV}(hg:Zi c k (Ahf c k n) x0 x1 x2 h):(Ahf c k (n+1)).a1 x0 x1 x2 h:=hg
theorem Bji{n_0:Int}(hg:Ady c k (Asl c k n) n_0 h):f221 (Asl c k (n+1)) 0 (Ab [.int .u8 n_0]) h:=hg
theorem Bjh{l_0:Nat}{c_0 l_1 c_1:Nat}(hg:Adx c k (Asj c k n) l_0 c_0 l_1 c_1 h):f224 (Asj c k (n+1)) 0 (Ab [.str l_0 c_0,.str l_1 c_1]) h:=hg
theorem Bjg{n_1:Int}{v_0:AV}(hg:Adw c k (Asi c k n) v_0 n_1 h):f258 (Asi c k (n+1)) 0 (Ab [v_0,.int .i64 n_1]) h:=hg
theorem Bjf{l_0 c_0:Nat}(hg:Adv c k (Ash c k n) l_0 c_0 h):f265 (Ash c k (n+1)) 0 (Ab [.str l_0 c_0]) h:=hg
theorem Bje{l_1 c_1:Nat}{v_0:AV}(hg:Adu c k (Lb c k n) v_0 l_1 c_1 h):f374 (Lb c k (n+1)) 0 (Ab [v_0,.str l_1 c_1]) h:=hg
theorem At1{x0:AV}{x1 x2:Nat}{x3:Int}{x4:Bool}{x5:AV}{x6 x7:Int}(hg:Zh c k (Lb c k n) x0 x1 x2 x3 x4 x5 x6 x7 h):(Lb c k (n+1)).a1 x0 x1 x2 x3 x4 x5 x6 x7 h:=hg
theorem A4k{x0:AV}{x1 x2:Nat}{x3:Int}{x4:Bool}{x5:Int}(hg:Adt c k (Lb c k n) x0 x1 x2 x3 x4 x5 h):(Lb c k (n+1)).a2 x0 x1 x2 x3 x4 x5 h:=hg
theorem At0{x0:AV}{x1 x2:Nat}{x3:Int}{x4:Bool}{x5:Int}(hg:Zg c k (Lb c k n) x0 x1 x2 x3 x4 x5 h):(Lb c k (n+1)).a3 x0 x1 x2 x3 x4 x5 h:=hg
theorem A4j{x0:AV}{x1 x2:Nat}{x3:AV}{x4 x5:Int}(hg:Ads c k (Lb c k n) x0 x1 x2 x3 x4 x5 h):(Lb c k (n+1)).a4 x0 x1 x2 x3 x4 x5 h:=hg
theorem A4i{x0:AV}{x1 x2:Nat}{x3:AV}{x4 x5:Int}(hg:Adr c k (Lb c k n) x0 x1 x2 x3 x4 x5 h):(Lb c k (n+1)).a5 x0 x1 x2 x3 x4 x5 h:=hg
theorem A4h{x0:AV}{x1 x2:Nat}{x3:Int}{x4:Bool}(hg:Adq c k (Lb c k n) x0 x1 x2 x3 x4 h):(Lb c k (n+1)).a6 x0 x1 x2 x3 x4 h:=hg
theorem Bjd{l_0:Nat}{c_0 l_1 c_1:Nat}(hg:Adp c k (Asg c k n) l_0 c_0 l_1 c_1 h):f376 (Asg c k (n+1)) 0 (Ab [.str l_0 c_0,.str l_1 c_1]) h:=hg
end Go.Den
