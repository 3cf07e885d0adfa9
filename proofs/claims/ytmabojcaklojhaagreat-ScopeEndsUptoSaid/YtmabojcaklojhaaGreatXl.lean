/- Part Xl of the proof of ScopeEnds: no condition. -/
import Derived.Test.YtmabojcaklojhaaGreatXk0
import Derived.Test.YtmabojcaklojhaaGreatXk1
import Derived.Test.YtmabojcaklojhaaGreatXk2
import Derived.Test.YtmabojcaklojhaaGreatXk3
import Derived.Test.YtmabojcaklojhaaGreatXk4
import Derived.Test.YtmabojcaklojhaaGreatXk5
import Derived.Test.YtmabojcaklojhaaGreatXk6
import Derived.Test.YtmabojcaklojhaaGreatXk7
import Derived.Test.YtmabojcaklojhaaGreatXk8
import Derived.Test.YtmabojcaklojhaaGreatXk9
import Derived.Test.YtmabojcaklojhaaGreatXk10
import Derived.Test.YtmabojcaklojhaaGreatXk11
import Derived.Test.YtmabojcaklojhaaGreatXk12
import Derived.Test.YtmabojcaklojhaaGreatXk13
import Derived.Test.YtmabojcaklojhaaGreatXk14
import Derived.Test.YtmabojcaklojhaaGreatXk15
import Derived.Test.YtmabojcaklojhaaGreatXk16
import Derived.Test.YtmabojcaklojhaaGreatXk17
import Derived.Test.YtmabojcaklojhaaGreatXk18
import Derived.Test.YtmabojcaklojhaaGreatXk19
import Derived.Test.YtmabojcaklojhaaGreatXk20
import Derived.Test.YtmabojcaklojhaaGreatXk21
import Derived.Test.YtmabojcaklojhaaGreatXk22
import Derived.Test.YtmabojcaklojhaaGreatXk23
import Derived.Test.YtmabojcaklojhaaGreatXk24
import Derived.Test.YtmabojcaklojhaaGreatXk25
import Derived.Test.YtmabojcaklojhaaGreatXk26
import Derived.Test.YtmabojcaklojhaaGreatXk27
import Derived.Test.YtmabojcaklojhaaGreatXk28
namespace Go.Rd
open Go.Rex Go.RowKit Go.Rt Go.Proofs
theorem k5:R.okB (chkF Tryz.prog Φ7 keys7 tbl sp41 gu41)=true:=okS_all (okS_un (k5_0) k5_1) (by rfl)
theorem k7:R.okB (chkF Tryz.prog Φ7 keys7 tbl sp9 gu9)=true:=okS_all (okS_un (okS_un (okS_un (okS_un (okS_un (okS_un (okS_un (okS_un (k7_0) k7_1) k7_2) k7_3) k7_4) k7_5) k7_6) k7_7) k7_8) (by rfl)
theorem k25:R.okB (chkF Tryz.prog Φ7 keys7 tbl sp43 gu43)=true:=okS_all (okS_un (okS_un (okS_un (okS_un (okS_un (okS_un (okS_un (okS_un (okS_un (okS_un (okS_un (okS_un (okS_un (k25_0) k25_1) k25_2) k25_3) k25_4) k25_5) k25_6) k25_7) k25_8) k25_9) k25_10) k25_11) k25_12) k25_13) (by rfl)
theorem k37:R.okB (chkF Tryz.prog Φ7 keys7 tbl sp10 gu10)=true:=okS_all (okS_un (k37_0) k37_1) (by rfl)
theorem k91:R.okB (chkF Tryz.prog Φ7 keys7 tbl (sp219 true) (gu219 true))=true:=okS_all (okS_un (k91_0) k91_1) (by rfl)
theorem k99:R.okB (chkF Tryz.prog Φ7 keys7 tbl (sp219 false) (gu219 false))=true:=okS_all (okS_un (k99_0) k99_1) (by rfl)
set_option maxRecDepth 100000
theorem all_okB:∀e∈TBL,R.okB (chkF Tryz.prog Φ7 keys7 tbl e.1 e.2)=true :=
 all_cons (p:=fun e:Sp × Gu=>R.okB (chkF Tryz.prog Φ7 keys7 tbl e.1 e.2)=true) k0<|all_cons k1<|all_cons k2<|all_cons k3<|all_cons k4<|all_cons k5<|all_cons k6<|all_cons k7<|all_cons k8<|all_cons k9<|all_cons k10<|all_cons k11<|all_cons k12<|all_cons k13<|all_cons k14<|all_cons k15<|all_cons k16<|all_cons k17<|all_cons k18<|all_cons k19<|all_cons k20<|all_cons k21<|all_cons k22<|all_cons k23<|all_cons k24<|all_cons k25<|all_cons k26<|all_cons k27<|all_cons k28<|all_cons k29<|all_cons k30<|all_cons k31<|all_cons k32<|all_cons k33<|all_cons k34<|all_cons k35<|all_cons k36<|all_cons k37<|all_cons k38<|all_cons k39<|all_cons k40<|all_cons k41<|all_cons k42<|all_cons k43<|all_cons k44<|all_cons k45<|all_cons k46<|all_cons k47<|all_cons k48<|all_cons k49<|all_cons k50<|all_cons k51<|all_cons k52<|all_cons k53<|all_cons k54<|all_cons k55<|all_cons k56<|all_cons k57<|all_cons k58<|all_cons k59<|all_cons k60<|all_cons k61<|all_cons k62<|all_cons k63<|all_cons k64<|all_cons k65<|all_cons k66<|all_cons k67<|all_cons k68<|all_cons k69<|all_cons k70<|all_cons k71<|all_cons k72<|all_cons k73<|all_cons k74<|all_cons k75<|all_cons k76<|all_cons k77<|all_cons k78<|all_cons k79<|all_cons k80<|all_cons k81<|all_cons k82<|all_cons k83<|all_cons k84<|all_cons k85<|all_cons k86<|all_cons k87<|all_cons k88<|all_cons k89<|all_cons k90<|all_cons k91<|all_cons k92<|all_cons k93<|all_cons k94<|all_cons k95<|all_cons k96<|all_cons k97<|all_cons k98<|all_cons k99<|all_cons k100<|all_cons k101<|all_cons k102<|all_cons k103<|all_cons k104<|all_cons k105<|all_cons k106<|all_cons k107<|all_cons k108<|all_cons k109<|all_cons k110<|all_cons k111<|all_cons k112<|all_cons k113<|all_cons k114<|all_cons k115<|all_cons k116<|all_cons k117<|all_cons k118<|all_cons k119<|all_nil
theorem all_ok:∀e∈TBL,(chkF Tryz.prog Φ7 keys7 tbl e.1 e.2).Ok:=fun e he=>R.okB_ok (all_okB e he)
end Go.Rd
